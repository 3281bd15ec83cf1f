-- Written by drv.py and splitd.py, programs of this session. Not trusted: Lean checks it.
import Derived.Test.YtdnfofhfllnhiaaQD0
namespace Go.Proofs.Ytdnfofhfllnhiaa.Q
open Go.RowKit Go.Proofs.YtdnfofhfllnhiaaW.PrintWords Go.Proofs.YtdnfofhfllnhiaaW.PrintLast Go.Proofs.YtdnfofhfllnhiaaW.PrintMore
set_option linter.unusedVariables false
set_option linter.unusedSimpArgs false
/-! ### splicelaw13_PatchBytes: function 6 -/
mutual
def splicelaw13_PatchBytes.j0 : Nat → List Int → Bool → List (S44) → List (S55) → Int → Option (Bool)
  | 0, _, _, _, _, _ => none
  | k + 1, x3, x24, x443000, x443001, x443002 => if x24 = true then ((splicelaw13_awake.f k).bind fun t448 => (some t448)) else ((place_Plan.f k x443000 x443001 x443002 x3).bind fun bt449 => (if bt449.2.2.2.2.2 = 0 then (splicelaw13_PatchBytes.l0 k 0 x443000 x443001 x443002 bt449.1 bt449.2.1 bt449.2.2.1 bt449.2.2.2.1 bt449.2.2.2.2.1) else (some true)))
def splicelaw13_PatchBytes.l0 : Nat → Int → List (S44) → List (S55) → Int → List Int → List Int → Int → Int → Int → Option (Bool)
  | 0, _, _, _, _, _, _, _, _, _ => none
  | k + 1, x6, x443000, x443001, x443002, x460000, x460001, x460002, x460003, x460004 => if x6 < (x443001.length : Int) then ((patch_Data.f x443000 x443001 x443002 x460000 x460001 x460002 x460003 x460004 x6).bind fun bt460 => (if bt460.2 = 0 then (if 0 ≤ (bt460.1.length : Int) then (if ((bt460.1.length : Int) : Int).toNat ≤ 281474976710656 then (splicelaw13_PatchBytes.l1 k x6 bt460.1 (List.replicate ((bt460.1.length : Int) : Int).toNat false) 0 x443000 x443001 x443002 x460000 x460001 x460002 x460003 x460004) else (none)) else (none)) else (splicelaw13_PatchBytes.l0 k (wrap64 (x6 + 1)) x443000 x443001 x443002 x460000 x460001 x460002 x460003 x460004))) else (some true)
def splicelaw13_PatchBytes.l1 : Nat → Int → List Int → List Bool → Int → List (S44) → List (S55) → Int → List Int → List Int → Int → Int → Int → Option (Bool)
  | 0, _, _, _, _, _, _, _, _, _, _, _, _ => none
  | k + 1, x6, x7, x9, x10, x443000, x443001, x443002, x460000, x460001, x460002, x460003, x460004 => if 0 ≤ x6 then (if x6 < (x443001.length : Int) then (if x10 < (((rd_T55 x443001 x6).f4).length : Int) then (if 0 ≤ x10 then (if 0 ≤ ((rd_T46 ((rd_T55 x443001 x6).f4) x10).f0) then (if ((rd_T46 ((rd_T55 x443001 x6).f4) x10).f0) ≤ (x7.length : Int) then ((spliceref01_Get.f k (x7.drop (((rd_T46 ((rd_T55 x443001 x6).f4) x10).f0) : Int).toNat)).bind fun t475 => (if 0 ≤ ((rd_T46 ((rd_T55 x443001 x6).f4) x10).f2) then (if ((rd_T46 ((rd_T55 x443001 x6).f4) x10).f2) < (x460001.length : Int) then ((place_Address.f (rd x460001 ((rd_T46 ((rd_T55 x443001 x6).f4) x10).f2))).bind fun t477 => (if t475 = ((t477 + (((rd_T46 ((rd_T55 x443001 x6).f4) x10).f3) % 4294967296)) % 4294967296) then (splicelaw13_PatchBytes.l2 k x6 x7 x9 x10 0 x443000 x443001 x443002 x460000 x460001 x460002 x460003 x460004 ((rd_T46 ((rd_T55 x443001 x6).f4) x10).f0) ((rd_T46 ((rd_T55 x443001 x6).f4) x10).f1) ((rd_T46 ((rd_T55 x443001 x6).f4) x10).f2) ((rd_T46 ((rd_T55 x443001 x6).f4) x10).f3)) else (none))) else (none)) else (none))) else (none)) else (none)) else (none)) else (splicelaw13_PatchBytes.l3 k x6 x7 x9 0 x443000 x443001 x443002 x460000 x460001 x460002 x460003 x460004)) else (none)) else (none)
def splicelaw13_PatchBytes.l2 : Nat → Int → List Int → List Bool → Int → Int → List (S44) → List (S55) → Int → List Int → List Int → Int → Int → Int → Int → Int → Int → Int → Option (Bool)
  | 0, _, _, _, _, _, _, _, _, _, _, _, _, _, _, _, _, _ => none
  | k + 1, x6, x7, x9, x10, x12, x443000, x443001, x443002, x460000, x460001, x460002, x460003, x460004, x471000, x471001, x471002, x471003 => if x12 < 4 then (if 0 ≤ (wrap64 (x471000 + x12)) then (if (wrap64 (x471000 + x12)) < (x9.length : Int) then (splicelaw13_PatchBytes.l2 k x6 x7 (x9.set ((wrap64 (x471000 + x12)) : Int).toNat true) x10 (wrap64 (x12 + 1)) x443000 x443001 x443002 x460000 x460001 x460002 x460003 x460004 x471000 x471001 x471002 x471003) else (none)) else (none)) else (splicelaw13_PatchBytes.l1 k x6 x7 x9 (wrap64 (x10 + 1)) x443000 x443001 x443002 x460000 x460001 x460002 x460003 x460004)
def splicelaw13_PatchBytes.l3 : Nat → Int → List Int → List Bool → Int → List (S44) → List (S55) → Int → List Int → List Int → Int → Int → Int → Option (Bool)
  | 0, _, _, _, _, _, _, _, _, _, _, _, _ => none
  | k + 1, x6, x7, x9, x13, x443000, x443001, x443002, x460000, x460001, x460002, x460003, x460004 => if x13 < (x7.length : Int) then (if 0 ≤ x6 then (if x6 < (x443001.length : Int) then (if x13 < (((rd_T55 x443001 x6).f3).length : Int) then (if 0 ≤ x13 then (if x13 < (x9.length : Int) then (if rdOf false x9 x13 = true then (splicelaw13_PatchBytes.l3 k x6 x7 x9 (wrap64 (x13 + 1)) x443000 x443001 x443002 x460000 x460001 x460002 x460003 x460004) else (if (rd x7 x13) = (rd ((rd_T55 x443001 x6).f3) x13) then (splicelaw13_PatchBytes.l3 k x6 x7 x9 (wrap64 (x13 + 1)) x443000 x443001 x443002 x460000 x460001 x460002 x460003 x460004) else (none))) else (none)) else (none)) else (if 0 ≤ x13 then (if x13 < (x9.length : Int) then (if rdOf false x9 x13 = true then (splicelaw13_PatchBytes.l3 k x6 x7 x9 (wrap64 (x13 + 1)) x443000 x443001 x443002 x460000 x460001 x460002 x460003 x460004) else (if (rd x7 x13) = 0 then (splicelaw13_PatchBytes.l3 k x6 x7 x9 (wrap64 (x13 + 1)) x443000 x443001 x443002 x460000 x460001 x460002 x460003 x460004) else (none))) else (none)) else (none))) else (none)) else (none)) else (splicelaw13_PatchBytes.l0 k (wrap64 (x6 + 1)) x443000 x443001 x443002 x460000 x460001 x460002 x460003 x460004)
end
def splicelaw13_PatchBytes.f (k : Nat) (l0_0 : List (S44)) (l0_1 : List (S55)) (a0_2 : Int) : Option (Bool) := (place_All.f k l0_0 l0_1 a0_2).bind fun t443 => ((splicelaw13_awake.f k).bind fun t446 => (if t446 = true then ((splicelaw13_fine.f k l0_0 l0_1 a0_2 t443).bind fun t447 => (splicelaw13_PatchBytes.j0 k t443 (!t447) l0_0 l0_1 a0_2)) else (splicelaw13_PatchBytes.j0 k t443 true l0_0 l0_1 a0_2)))
theorem splicelaw13_PatchBytes.mono_l : ∀ k, (∀ y0 y1 y2 y3 y4, LeO (splicelaw13_PatchBytes.j0 k y0 y1 y2 y3 y4) (splicelaw13_PatchBytes.j0 (k + 1) y0 y1 y2 y3 y4)) ∧ (∀ y0 y1 y2 y3 y4 y5 y6 y7 y8, LeO (splicelaw13_PatchBytes.l0 k y0 y1 y2 y3 y4 y5 y6 y7 y8) (splicelaw13_PatchBytes.l0 (k + 1) y0 y1 y2 y3 y4 y5 y6 y7 y8)) ∧ (∀ y0 y1 y2 y3 y4 y5 y6 y7 y8 y9 y10 y11, LeO (splicelaw13_PatchBytes.l1 k y0 y1 y2 y3 y4 y5 y6 y7 y8 y9 y10 y11) (splicelaw13_PatchBytes.l1 (k + 1) y0 y1 y2 y3 y4 y5 y6 y7 y8 y9 y10 y11)) ∧ (∀ y0 y1 y2 y3 y4 y5 y6 y7 y8 y9 y10 y11 y12 y13 y14 y15 y16, LeO (splicelaw13_PatchBytes.l2 k y0 y1 y2 y3 y4 y5 y6 y7 y8 y9 y10 y11 y12 y13 y14 y15 y16) (splicelaw13_PatchBytes.l2 (k + 1) y0 y1 y2 y3 y4 y5 y6 y7 y8 y9 y10 y11 y12 y13 y14 y15 y16)) ∧ (∀ y0 y1 y2 y3 y4 y5 y6 y7 y8 y9 y10 y11, LeO (splicelaw13_PatchBytes.l3 k y0 y1 y2 y3 y4 y5 y6 y7 y8 y9 y10 y11) (splicelaw13_PatchBytes.l3 (k + 1) y0 y1 y2 y3 y4 y5 y6 y7 y8 y9 y10 y11))
  | 0 => ⟨fun _ _ _ _ _ r h => by simp [splicelaw13_PatchBytes.j0] at h, fun _ _ _ _ _ _ _ _ _ r h => by simp [splicelaw13_PatchBytes.l0] at h, fun _ _ _ _ _ _ _ _ _ _ _ _ r h => by simp [splicelaw13_PatchBytes.l1] at h, fun _ _ _ _ _ _ _ _ _ _ _ _ _ _ _ _ _ r h => by simp [splicelaw13_PatchBytes.l2] at h, fun _ _ _ _ _ _ _ _ _ _ _ _ r h => by simp [splicelaw13_PatchBytes.l3] at h⟩
  | k + 1 => by
    obtain ⟨ih0, ih1, ih2, ih3, ih4⟩ := splicelaw13_PatchBytes.mono_l k
    refine ⟨?_, ?_, ?_, ?_, ?_⟩
    · intro y0 y1 y2 y3 y4
      unfold splicelaw13_PatchBytes.j0
      repeat' first
      | (with_reducible exact ih0 _ _ _ _ _)
      | (with_reducible exact ih1 _ _ _ _ _ _ _ _ _)
      | (with_reducible exact ih2 _ _ _ _ _ _ _ _ _ _ _ _)
      | (with_reducible exact ih3 _ _ _ _ _ _ _ _ _ _ _ _ _ _ _ _ _)
      | (with_reducible exact ih4 _ _ _ _ _ _ _ _ _ _ _ _)
      | (with_reducible exact place_All.mono _ _ _ _)
      | (with_reducible exact place_Plan.mono _ _ _ _ _)
      | (with_reducible exact splicelaw13_awake.mono _)
      | (with_reducible exact splicelaw13_fine.mono _ _ _ _ _)
      | (with_reducible exact spliceref01_Get.mono _ _)
      | (with_reducible exact LeO.refl _)
      | (with_reducible exact LeO.none _)
      | (with_reducible refine LeO.ite ?_ ?_)
      | (with_reducible refine LeO.bind ?_ (fun _ => ?_))
    · intro y0 y1 y2 y3 y4 y5 y6 y7 y8
      unfold splicelaw13_PatchBytes.l0
      repeat' first
      | (with_reducible exact ih0 _ _ _ _ _)
      | (with_reducible exact ih1 _ _ _ _ _ _ _ _ _)
      | (with_reducible exact ih2 _ _ _ _ _ _ _ _ _ _ _ _)
      | (with_reducible exact ih3 _ _ _ _ _ _ _ _ _ _ _ _ _ _ _ _ _)
      | (with_reducible exact ih4 _ _ _ _ _ _ _ _ _ _ _ _)
      | (with_reducible exact place_All.mono _ _ _ _)
      | (with_reducible exact place_Plan.mono _ _ _ _ _)
      | (with_reducible exact splicelaw13_awake.mono _)
      | (with_reducible exact splicelaw13_fine.mono _ _ _ _ _)
      | (with_reducible exact spliceref01_Get.mono _ _)
      | (with_reducible exact LeO.refl _)
      | (with_reducible exact LeO.none _)
      | (with_reducible refine LeO.ite ?_ ?_)
      | (with_reducible refine LeO.bind ?_ (fun _ => ?_))
    · intro y0 y1 y2 y3 y4 y5 y6 y7 y8 y9 y10 y11
      unfold splicelaw13_PatchBytes.l1
      repeat' first
      | (with_reducible exact ih0 _ _ _ _ _)
      | (with_reducible exact ih1 _ _ _ _ _ _ _ _ _)
      | (with_reducible exact ih2 _ _ _ _ _ _ _ _ _ _ _ _)
      | (with_reducible exact ih3 _ _ _ _ _ _ _ _ _ _ _ _ _ _ _ _ _)
      | (with_reducible exact ih4 _ _ _ _ _ _ _ _ _ _ _ _)
      | (with_reducible exact place_All.mono _ _ _ _)
      | (with_reducible exact place_Plan.mono _ _ _ _ _)
      | (with_reducible exact splicelaw13_awake.mono _)
      | (with_reducible exact splicelaw13_fine.mono _ _ _ _ _)
      | (with_reducible exact spliceref01_Get.mono _ _)
      | (with_reducible exact LeO.refl _)
      | (with_reducible exact LeO.none _)
      | (with_reducible refine LeO.ite ?_ ?_)
      | (with_reducible refine LeO.bind ?_ (fun _ => ?_))
    · intro y0 y1 y2 y3 y4 y5 y6 y7 y8 y9 y10 y11 y12 y13 y14 y15 y16
      unfold splicelaw13_PatchBytes.l2
      repeat' first
      | (with_reducible exact ih0 _ _ _ _ _)
      | (with_reducible exact ih1 _ _ _ _ _ _ _ _ _)
      | (with_reducible exact ih2 _ _ _ _ _ _ _ _ _ _ _ _)
      | (with_reducible exact ih3 _ _ _ _ _ _ _ _ _ _ _ _ _ _ _ _ _)
      | (with_reducible exact ih4 _ _ _ _ _ _ _ _ _ _ _ _)
      | (with_reducible exact place_All.mono _ _ _ _)
      | (with_reducible exact place_Plan.mono _ _ _ _ _)
      | (with_reducible exact splicelaw13_awake.mono _)
      | (with_reducible exact splicelaw13_fine.mono _ _ _ _ _)
      | (with_reducible exact spliceref01_Get.mono _ _)
      | (with_reducible exact LeO.refl _)
      | (with_reducible exact LeO.none _)
      | (with_reducible refine LeO.ite ?_ ?_)
      | (with_reducible refine LeO.bind ?_ (fun _ => ?_))
    · intro y0 y1 y2 y3 y4 y5 y6 y7 y8 y9 y10 y11
      unfold splicelaw13_PatchBytes.l3
      repeat' first
      | (with_reducible exact ih0 _ _ _ _ _)
      | (with_reducible exact ih1 _ _ _ _ _ _ _ _ _)
      | (with_reducible exact ih2 _ _ _ _ _ _ _ _ _ _ _ _)
      | (with_reducible exact ih3 _ _ _ _ _ _ _ _ _ _ _ _ _ _ _ _ _)
      | (with_reducible exact ih4 _ _ _ _ _ _ _ _ _ _ _ _)
      | (with_reducible exact place_All.mono _ _ _ _)
      | (with_reducible exact place_Plan.mono _ _ _ _ _)
      | (with_reducible exact splicelaw13_awake.mono _)
      | (with_reducible exact splicelaw13_fine.mono _ _ _ _ _)
      | (with_reducible exact spliceref01_Get.mono _ _)
      | (with_reducible exact LeO.refl _)
      | (with_reducible exact LeO.none _)
      | (with_reducible refine LeO.ite ?_ ?_)
      | (with_reducible refine LeO.bind ?_ (fun _ => ?_))
theorem splicelaw13_PatchBytes.mono : ∀ a0 a1 a2 k, LeO (splicelaw13_PatchBytes.f k a0 a1 a2) (splicelaw13_PatchBytes.f (k + 1) a0 a1 a2) := by
  intro a0 a1 a2 k
  obtain ⟨ih0, ih1, ih2, ih3, ih4⟩ := splicelaw13_PatchBytes.mono_l k
  unfold splicelaw13_PatchBytes.f
  repeat' first
      | (with_reducible exact ih0 _ _ _ _ _)
      | (with_reducible exact ih1 _ _ _ _ _ _ _ _ _)
      | (with_reducible exact ih2 _ _ _ _ _ _ _ _ _ _ _ _)
      | (with_reducible exact ih3 _ _ _ _ _ _ _ _ _ _ _ _ _ _ _ _ _)
      | (with_reducible exact ih4 _ _ _ _ _ _ _ _ _ _ _ _)
      | (with_reducible exact place_All.mono _ _ _ _)
      | (with_reducible exact place_Plan.mono _ _ _ _ _)
      | (with_reducible exact splicelaw13_awake.mono _)
      | (with_reducible exact splicelaw13_fine.mono _ _ _ _ _)
      | (with_reducible exact spliceref01_Get.mono _ _)
      | (with_reducible exact LeO.refl _)
      | (with_reducible exact LeO.none _)
      | (with_reducible refine LeO.ite ?_ ?_)
      | (with_reducible refine LeO.bind ?_ (fun _ => ?_))
def splicelaw13_PatchBytes.Pure : Prop := ∀ (x0 : S25), (W25 x0) → ∃ k, splicelaw13_PatchBytes.f k x0.f0 x0.f1 x0.f2 = some true

end Go.Proofs.Ytdnfofhfllnhiaa.Q
