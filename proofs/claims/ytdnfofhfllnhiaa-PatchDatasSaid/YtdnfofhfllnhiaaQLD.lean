-- Written by drv.py and splitd.py, programs of this session. Not trusted: Lean checks it.
import Derived.Test.YtdnfofhfllnhiaaQD0
namespace Go.Proofs.Ytdnfofhfllnhiaa.Q
open Go.RowKit Go.Proofs.YtdnfofhfllnhiaaW.PrintWords Go.Proofs.YtdnfofhfllnhiaaW.PrintLast Go.Proofs.YtdnfofhfllnhiaaW.PrintMore
set_option linter.unusedVariables false
set_option linter.unusedSimpArgs false
/-! ### spliceref13_Data: function 15 -/
mutual
def spliceref13_Data.l0 : Nat → Int → List Int → List (S44) → List (S55) → Int → List Int → List Int → Int → Int → Int → Option (List Int × Int)
  | 0, _, _, _, _, _, _, _, _, _, _ => none
  | k + 1, x2, x8, x342000, x342001, x342002, x343000, x343001, x343002, x343003, x343004 => if 0 ≤ x2 then (if x2 < (x342001.length : Int) then (if (x8.length : Int) < ((rd_T55 x342001 x2).f2) then (if x8.length < 140737488355328 then (spliceref13_Data.l0 k x2 (x8 ++ [0]) x342000 x342001 x342002 x343000 x343001 x343002 x343003 x343004) else (none)) else (spliceref13_Data.l1 k x2 x8 0 x342000 x342001 x342002 x343000 x343001 x343002 x343003 x343004)) else (none)) else (none)
def spliceref13_Data.l1 : Nat → Int → List Int → Int → List (S44) → List (S55) → Int → List Int → List Int → Int → Int → Int → Option (List Int × Int)
  | 0, _, _, _, _, _, _, _, _, _, _, _ => none
  | k + 1, x2, x8, x9, x342000, x342001, x342002, x343000, x343001, x343002, x343003, x343004 => if 0 ≤ x2 then (if x2 < (x342001.length : Int) then (if x9 < (((rd_T55 x342001 x2).f4).length : Int) then (if 0 ≤ x9 then (if 0 ≤ ((rd_T46 ((rd_T55 x342001 x2).f4) x9).f2) then (if ((rd_T46 ((rd_T55 x342001 x2).f4) x9).f2) < (x343001.length : Int) then (if (wrap64 ((wrap64 (65536 + (rd x343001 ((rd_T46 ((rd_T55 x342001 x2).f4) x9).f2)))) + ((rd_T46 ((rd_T55 x342001 x2).f4) x9).f3))) < 0 then (spliceref13_Data.j2 k x2 x8 x9 (wrap64 ((wrap64 (65536 + (rd x343001 ((rd_T46 ((rd_T55 x342001 x2).f4) x9).f2)))) + ((rd_T46 ((rd_T55 x342001 x2).f4) x9).f3))) true x342000 x342001 x342002 x343000 x343001 x343002 x343003 x343004 ((rd_T46 ((rd_T55 x342001 x2).f4) x9).f0) ((rd_T46 ((rd_T55 x342001 x2).f4) x9).f1) ((rd_T46 ((rd_T55 x342001 x2).f4) x9).f2) ((rd_T46 ((rd_T55 x342001 x2).f4) x9).f3)) else (spliceref13_Data.j2 k x2 x8 x9 (wrap64 ((wrap64 (65536 + (rd x343001 ((rd_T46 ((rd_T55 x342001 x2).f4) x9).f2)))) + ((rd_T46 ((rd_T55 x342001 x2).f4) x9).f3))) (decide ((wrap64 ((wrap64 (65536 + (rd x343001 ((rd_T46 ((rd_T55 x342001 x2).f4) x9).f2)))) + ((rd_T46 ((rd_T55 x342001 x2).f4) x9).f3))) > 4294967295)) x342000 x342001 x342002 x343000 x343001 x343002 x343003 x343004 ((rd_T46 ((rd_T55 x342001 x2).f4) x9).f0) ((rd_T46 ((rd_T55 x342001 x2).f4) x9).f1) ((rd_T46 ((rd_T55 x342001 x2).f4) x9).f2) ((rd_T46 ((rd_T55 x342001 x2).f4) x9).f3))) else (none)) else (none)) else (none)) else (some (x8, 0))) else (none)) else (none)
def spliceref13_Data.j2 : Nat → Int → List Int → Int → Int → Bool → List (S44) → List (S55) → Int → List Int → List Int → Int → Int → Int → Int → Int → Int → Int → Option (List Int × Int)
  | 0, _, _, _, _, _, _, _, _, _, _, _, _, _, _, _, _, _ => none
  | k + 1, x2, x8, x9, x11, x69, x342000, x342001, x342002, x343000, x343001, x343002, x343003, x343004, x358000, x358001, x358002, x358003 => if x69 = true then (some (([] : List Int), 7)) else ((spliceref01_Put.f ((x11) % 4294967296)).bind fun t359 => (spliceref13_Data.l2 k x2 x8 x9 t359 0 x342000 x342001 x342002 x343000 x343001 x343002 x343003 x343004 x358000 x358001 x358002 x358003))
def spliceref13_Data.l2 : Nat → Int → List Int → Int → List Int → Int → List (S44) → List (S55) → Int → List Int → List Int → Int → Int → Int → Int → Int → Int → Int → Option (List Int × Int)
  | 0, _, _, _, _, _, _, _, _, _, _, _, _, _, _, _, _, _ => none
  | k + 1, x2, x8, x9, x12, x13, x342000, x342001, x342002, x343000, x343001, x343002, x343003, x343004, x358000, x358001, x358002, x358003 => if x13 < 4 then (if 0 ≤ x13 then (if x13 < (x12.length : Int) then (if 0 ≤ (wrap64 (x358000 + x13)) then (if (wrap64 (x358000 + x13)) < (x8.length : Int) then (spliceref13_Data.l2 k x2 (x8.set ((wrap64 (x358000 + x13)) : Int).toNat (rd x12 x13)) x9 x12 (wrap64 (x13 + 1)) x342000 x342001 x342002 x343000 x343001 x343002 x343003 x343004 x358000 x358001 x358002 x358003) else (none)) else (none)) else (none)) else (none)) else (spliceref13_Data.l1 k x2 x8 (wrap64 (x9 + 1)) x342000 x342001 x342002 x343000 x343001 x343002 x343003 x343004)
end
def spliceref13_Data.f (k : Nat) (l0_0 : List (S44)) (l0_1 : List (S55)) (a0_2 : Int) (l1_0 : List Int) (l1_1 : List Int) (a1_2 : Int) (a1_3 : Int) (a1_4 : Int) (a2 : Int) : Option (List Int × Int) := (some (([] : List Int) : List Int)).bind fun y343 => (if 0 ≤ a2 then (if a2 < (l0_1.length : Int) then (if y343.length + ((rd_T55 l0_1 a2).f3).length < 140737488355328 then (spliceref13_Data.l0 k a2 (y343 ++ ((rd_T55 l0_1 a2).f3)) l0_0 l0_1 a0_2 l1_0 l1_1 a1_2 a1_3 a1_4) else (none)) else (none)) else (none))
theorem spliceref13_Data.mono_l : ∀ k, (∀ y0 y1 y2 y3 y4 y5 y6 y7 y8 y9, LeO (spliceref13_Data.l0 k y0 y1 y2 y3 y4 y5 y6 y7 y8 y9) (spliceref13_Data.l0 (k + 1) y0 y1 y2 y3 y4 y5 y6 y7 y8 y9)) ∧ (∀ y0 y1 y2 y3 y4 y5 y6 y7 y8 y9 y10, LeO (spliceref13_Data.l1 k y0 y1 y2 y3 y4 y5 y6 y7 y8 y9 y10) (spliceref13_Data.l1 (k + 1) y0 y1 y2 y3 y4 y5 y6 y7 y8 y9 y10)) ∧ (∀ y0 y1 y2 y3 y4 y5 y6 y7 y8 y9 y10 y11 y12 y13 y14 y15 y16, LeO (spliceref13_Data.j2 k y0 y1 y2 y3 y4 y5 y6 y7 y8 y9 y10 y11 y12 y13 y14 y15 y16) (spliceref13_Data.j2 (k + 1) y0 y1 y2 y3 y4 y5 y6 y7 y8 y9 y10 y11 y12 y13 y14 y15 y16)) ∧ (∀ y0 y1 y2 y3 y4 y5 y6 y7 y8 y9 y10 y11 y12 y13 y14 y15 y16, LeO (spliceref13_Data.l2 k y0 y1 y2 y3 y4 y5 y6 y7 y8 y9 y10 y11 y12 y13 y14 y15 y16) (spliceref13_Data.l2 (k + 1) y0 y1 y2 y3 y4 y5 y6 y7 y8 y9 y10 y11 y12 y13 y14 y15 y16))
  | 0 => ⟨fun _ _ _ _ _ _ _ _ _ _ r h => by simp [spliceref13_Data.l0] at h, fun _ _ _ _ _ _ _ _ _ _ _ r h => by simp [spliceref13_Data.l1] at h, fun _ _ _ _ _ _ _ _ _ _ _ _ _ _ _ _ _ r h => by simp [spliceref13_Data.j2] at h, fun _ _ _ _ _ _ _ _ _ _ _ _ _ _ _ _ _ r h => by simp [spliceref13_Data.l2] at h⟩
  | k + 1 => by
    obtain ⟨ih0, ih1, ih2, ih3⟩ := spliceref13_Data.mono_l k
    refine ⟨?_, ?_, ?_, ?_⟩
    · intro y0 y1 y2 y3 y4 y5 y6 y7 y8 y9
      unfold spliceref13_Data.l0
      repeat' first
      | (with_reducible exact ih0 _ _ _ _ _ _ _ _ _ _)
      | (with_reducible exact ih1 _ _ _ _ _ _ _ _ _ _ _)
      | (with_reducible exact ih2 _ _ _ _ _ _ _ _ _ _ _ _ _ _ _ _ _)
      | (with_reducible exact ih3 _ _ _ _ _ _ _ _ _ _ _ _ _ _ _ _ _)
      | (with_reducible exact LeO.refl _)
      | (with_reducible exact LeO.none _)
      | (with_reducible refine LeO.ite ?_ ?_)
      | (with_reducible refine LeO.bind ?_ (fun _ => ?_))
    · intro y0 y1 y2 y3 y4 y5 y6 y7 y8 y9 y10
      unfold spliceref13_Data.l1
      repeat' first
      | (with_reducible exact ih0 _ _ _ _ _ _ _ _ _ _)
      | (with_reducible exact ih1 _ _ _ _ _ _ _ _ _ _ _)
      | (with_reducible exact ih2 _ _ _ _ _ _ _ _ _ _ _ _ _ _ _ _ _)
      | (with_reducible exact ih3 _ _ _ _ _ _ _ _ _ _ _ _ _ _ _ _ _)
      | (with_reducible exact LeO.refl _)
      | (with_reducible exact LeO.none _)
      | (with_reducible refine LeO.ite ?_ ?_)
      | (with_reducible refine LeO.bind ?_ (fun _ => ?_))
    · intro y0 y1 y2 y3 y4 y5 y6 y7 y8 y9 y10 y11 y12 y13 y14 y15 y16
      unfold spliceref13_Data.j2
      repeat' first
      | (with_reducible exact ih0 _ _ _ _ _ _ _ _ _ _)
      | (with_reducible exact ih1 _ _ _ _ _ _ _ _ _ _ _)
      | (with_reducible exact ih2 _ _ _ _ _ _ _ _ _ _ _ _ _ _ _ _ _)
      | (with_reducible exact ih3 _ _ _ _ _ _ _ _ _ _ _ _ _ _ _ _ _)
      | (with_reducible exact LeO.refl _)
      | (with_reducible exact LeO.none _)
      | (with_reducible refine LeO.ite ?_ ?_)
      | (with_reducible refine LeO.bind ?_ (fun _ => ?_))
    · intro y0 y1 y2 y3 y4 y5 y6 y7 y8 y9 y10 y11 y12 y13 y14 y15 y16
      unfold spliceref13_Data.l2
      repeat' first
      | (with_reducible exact ih0 _ _ _ _ _ _ _ _ _ _)
      | (with_reducible exact ih1 _ _ _ _ _ _ _ _ _ _ _)
      | (with_reducible exact ih2 _ _ _ _ _ _ _ _ _ _ _ _ _ _ _ _ _)
      | (with_reducible exact ih3 _ _ _ _ _ _ _ _ _ _ _ _ _ _ _ _ _)
      | (with_reducible exact LeO.refl _)
      | (with_reducible exact LeO.none _)
      | (with_reducible refine LeO.ite ?_ ?_)
      | (with_reducible refine LeO.bind ?_ (fun _ => ?_))
theorem spliceref13_Data.mono : ∀ a0 a1 a2 a3 a4 a5 a6 a7 a8 k, LeO (spliceref13_Data.f k a0 a1 a2 a3 a4 a5 a6 a7 a8) (spliceref13_Data.f (k + 1) a0 a1 a2 a3 a4 a5 a6 a7 a8) := by
  intro a0 a1 a2 a3 a4 a5 a6 a7 a8 k
  obtain ⟨ih0, ih1, ih2, ih3⟩ := spliceref13_Data.mono_l k
  unfold spliceref13_Data.f
  repeat' first
      | (with_reducible exact ih0 _ _ _ _ _ _ _ _ _ _)
      | (with_reducible exact ih1 _ _ _ _ _ _ _ _ _ _ _)
      | (with_reducible exact ih2 _ _ _ _ _ _ _ _ _ _ _ _ _ _ _ _ _)
      | (with_reducible exact ih3 _ _ _ _ _ _ _ _ _ _ _ _ _ _ _ _ _)
      | (with_reducible exact LeO.refl _)
      | (with_reducible exact LeO.none _)
      | (with_reducible refine LeO.ite ?_ ?_)
      | (with_reducible refine LeO.bind ?_ (fun _ => ?_))
/-! ### splicelaw13_PatchDatas: function 4 -/
mutual
def splicelaw13_PatchDatas.j0 : Nat → List Int → Bool → List (S44) → List (S55) → Int → Option (Bool)
  | 0, _, _, _, _, _ => none
  | k + 1, x1, x19, x365000, x365001, x365002 => if x19 = true then ((splicelaw13_awake.f k).bind fun t367 => (some t367)) else ((place_Plan.f k x365000 x365001 x365002 x1).bind fun bt368 => (if bt368.2.2.2.2.2 = 0 then (splicelaw13_PatchDatas.l0 k 0 x365000 x365001 x365002 bt368.1 bt368.2.1 bt368.2.2.1 bt368.2.2.2.1 bt368.2.2.2.2.1) else (some true)))
def splicelaw13_PatchDatas.l0 : Nat → Int → List (S44) → List (S55) → Int → List Int → List Int → Int → Int → Int → Option (Bool)
  | 0, _, _, _, _, _, _, _, _, _ => none
  | k + 1, x7, x365000, x365001, x365002, x379000, x379001, x379002, x379003, x379004 => if x7 < (x365001.length : Int) then ((patch_Data.f x365000 x365001 x365002 x379000 x379001 x379002 x379003 x379004 x7).bind fun bt379 => ((spliceref13_Data.f k x365000 x365001 x365002 x379000 x379001 x379002 x379003 x379004 x7).bind fun bt383 => (if bt379.2 = bt383.2 then ((spliceref01_Same.f k bt379.1 bt383.1).bind fun t387 => (if t387 = true then (splicelaw13_PatchDatas.l0 k (wrap64 (x7 + 1)) x365000 x365001 x365002 x379000 x379001 x379002 x379003 x379004) else (none))) else (none)))) else (some true)
end
def splicelaw13_PatchDatas.f (k : Nat) (l0_0 : List (S44)) (l0_1 : List (S55)) (a0_2 : Int) (l1 : List Int) : Option (Bool) := (splicelaw13_awake.f k).bind fun t365 => (if t365 = true then ((splicelaw13_fine.f k l0_0 l0_1 a0_2 l1).bind fun t366 => (splicelaw13_PatchDatas.j0 k l1 (!t366) l0_0 l0_1 a0_2)) else (splicelaw13_PatchDatas.j0 k l1 true l0_0 l0_1 a0_2))
theorem splicelaw13_PatchDatas.mono_l : ∀ k, (∀ y0 y1 y2 y3 y4, LeO (splicelaw13_PatchDatas.j0 k y0 y1 y2 y3 y4) (splicelaw13_PatchDatas.j0 (k + 1) y0 y1 y2 y3 y4)) ∧ (∀ y0 y1 y2 y3 y4 y5 y6 y7 y8, LeO (splicelaw13_PatchDatas.l0 k y0 y1 y2 y3 y4 y5 y6 y7 y8) (splicelaw13_PatchDatas.l0 (k + 1) y0 y1 y2 y3 y4 y5 y6 y7 y8))
  | 0 => ⟨fun _ _ _ _ _ r h => by simp [splicelaw13_PatchDatas.j0] at h, fun _ _ _ _ _ _ _ _ _ r h => by simp [splicelaw13_PatchDatas.l0] at h⟩
  | k + 1 => by
    obtain ⟨ih0, ih1⟩ := splicelaw13_PatchDatas.mono_l k
    refine ⟨?_, ?_⟩
    · intro y0 y1 y2 y3 y4
      unfold splicelaw13_PatchDatas.j0
      repeat' first
      | (with_reducible exact ih0 _ _ _ _ _)
      | (with_reducible exact ih1 _ _ _ _ _ _ _ _ _)
      | (with_reducible exact place_Plan.mono _ _ _ _ _)
      | (with_reducible exact splicelaw13_awake.mono _)
      | (with_reducible exact splicelaw13_fine.mono _ _ _ _ _)
      | (with_reducible exact spliceref01_Same.mono _ _ _)
      | (with_reducible exact spliceref13_Data.mono _ _ _ _ _ _ _ _ _ _)
      | (with_reducible exact LeO.refl _)
      | (with_reducible exact LeO.none _)
      | (with_reducible refine LeO.ite ?_ ?_)
      | (with_reducible refine LeO.bind ?_ (fun _ => ?_))
    · intro y0 y1 y2 y3 y4 y5 y6 y7 y8
      unfold splicelaw13_PatchDatas.l0
      repeat' first
      | (with_reducible exact ih0 _ _ _ _ _)
      | (with_reducible exact ih1 _ _ _ _ _ _ _ _ _)
      | (with_reducible exact place_Plan.mono _ _ _ _ _)
      | (with_reducible exact splicelaw13_awake.mono _)
      | (with_reducible exact splicelaw13_fine.mono _ _ _ _ _)
      | (with_reducible exact spliceref01_Same.mono _ _ _)
      | (with_reducible exact spliceref13_Data.mono _ _ _ _ _ _ _ _ _ _)
      | (with_reducible exact LeO.refl _)
      | (with_reducible exact LeO.none _)
      | (with_reducible refine LeO.ite ?_ ?_)
      | (with_reducible refine LeO.bind ?_ (fun _ => ?_))
theorem splicelaw13_PatchDatas.mono : ∀ a0 a1 a2 a3 k, LeO (splicelaw13_PatchDatas.f k a0 a1 a2 a3) (splicelaw13_PatchDatas.f (k + 1) a0 a1 a2 a3) := by
  intro a0 a1 a2 a3 k
  obtain ⟨ih0, ih1⟩ := splicelaw13_PatchDatas.mono_l k
  unfold splicelaw13_PatchDatas.f
  repeat' first
      | (with_reducible exact ih0 _ _ _ _ _)
      | (with_reducible exact ih1 _ _ _ _ _ _ _ _ _)
      | (with_reducible exact place_Plan.mono _ _ _ _ _)
      | (with_reducible exact splicelaw13_awake.mono _)
      | (with_reducible exact splicelaw13_fine.mono _ _ _ _ _)
      | (with_reducible exact spliceref01_Same.mono _ _ _)
      | (with_reducible exact spliceref13_Data.mono _ _ _ _ _ _ _ _ _ _)
      | (with_reducible exact LeO.refl _)
      | (with_reducible exact LeO.none _)
      | (with_reducible refine LeO.ite ?_ ?_)
      | (with_reducible refine LeO.bind ?_ (fun _ => ?_))
def splicelaw13_PatchDatas.Pure : Prop := ∀ (x0 : S25) (x1 : List Int), (W25 x0) → (x1.length * 8 ≤ 140737488351232 ∧ ∀ x_ ∈ x1, I64 x_) → ∃ k, splicelaw13_PatchDatas.f k x0.f0 x0.f1 x0.f2 x1 = some true

end Go.Proofs.Ytdnfofhfllnhiaa.Q
