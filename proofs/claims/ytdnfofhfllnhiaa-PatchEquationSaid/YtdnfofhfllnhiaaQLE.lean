-- Written by drv.py and splitd.py, programs of this session. Not trusted: Lean checks it.
import Derived.Test.YtdnfofhfllnhiaaQD0
namespace Go.Proofs.Ytdnfofhfllnhiaa.Q
open Go.RowKit Go.Proofs.YtdnfofhfllnhiaaW.PrintWords Go.Proofs.YtdnfofhfllnhiaaW.PrintLast Go.Proofs.YtdnfofhfllnhiaaW.PrintMore
set_option linter.unusedVariables false
set_option linter.unusedSimpArgs false
/-! ### splicelaw13_PatchEquation: function 5 -/
mutual
def splicelaw13_PatchEquation.j0 : Nat → List Int → Bool → List (S44) → List (S55) → Int → Option (Bool)
  | 0, _, _, _, _, _ => none
  | k + 1, x1, x27, x389000, x389001, x389002 => if x27 = true then ((splicelaw13_awake.f k).bind fun t391 => (some t391)) else ((place_Plan.f k x389000 x389001 x389002 x1).bind fun bt392 => (if bt392.2.2.2.2.2 = 0 then (splicelaw13_PatchEquation.l0 k x1 0 x389000 x389001 x389002 bt392.1 bt392.2.1 bt392.2.2.1 bt392.2.2.2.1 bt392.2.2.2.2.1) else (some true)))
def splicelaw13_PatchEquation.l0 : Nat → List Int → Int → List (S44) → List (S55) → Int → List Int → List Int → Int → Int → Int → Option (Bool)
  | 0, _, _, _, _, _, _, _, _, _, _ => none
  | k + 1, x1, x7, x389000, x389001, x389002, x403000, x403001, x403002, x403003, x403004 => if x7 < (x1.length : Int) then (if 0 ≤ x7 then ((patch_Code.f k x389000 x389001 x389002 x403000 x403001 x403002 x403003 x403004 (rd x1 x7)).bind fun bt404 => (if bt404.2 = 0 then (if 0 ≤ (rd x1 x7) then (if (rd x1 x7) < (x389000.length : Int) then (splicelaw13_PatchEquation.l1 k x1 x7 (rd x1 x7) bt404.1 0 ((rd_T44 x389000 (rd x1 x7)).f4) 0 x389000 x389001 x389002 x403000 x403001 x403002 x403003 x403004) else (none)) else (none)) else (splicelaw13_PatchEquation.l0 k x1 (wrap64 (x7 + 1)) x389000 x389001 x389002 x403000 x403001 x403002 x403003 x403004))) else (none)) else (some true)
def splicelaw13_PatchEquation.l1 : Nat → List Int → Int → Int → List Int → Int → List (S46) → Int → List (S44) → List (S55) → Int → List Int → List Int → Int → Int → Int → Option (Bool)
  | 0, _, _, _, _, _, _, _, _, _, _, _, _, _, _, _ => none
  | k + 1, x1, x7, x8, x9, x11, x12, x13, x389000, x389001, x389002, x403000, x403001, x403002, x403003, x403004 => if x13 < (x9.length : Int) then (if x11 ≥ (x12.length : Int) then (splicelaw13_PatchEquation.j3 k x1 x7 x8 x9 x11 x12 x13 true x389000 x389001 x389002 x403000 x403001 x403002 x403003 x403004) else (if 0 ≤ x11 then (if x11 < (x12.length : Int) then (splicelaw13_PatchEquation.j3 k x1 x7 x8 x9 x11 x12 x13 (((rd_T46 x12 x11).f0) != x13) x389000 x389001 x389002 x403000 x403001 x403002 x403003 x403004) else (none)) else (none))) else (splicelaw13_PatchEquation.l0 k x1 (wrap64 (x7 + 1)) x389000 x389001 x389002 x403000 x403001 x403002 x403003 x403004)
def splicelaw13_PatchEquation.j3 : Nat → List Int → Int → Int → List Int → Int → List (S46) → Int → Bool → List (S44) → List (S55) → Int → List Int → List Int → Int → Int → Int → Option (Bool)
  | 0, _, _, _, _, _, _, _, _, _, _, _, _, _, _, _, _ => none
  | k + 1, x1, x7, x8, x9, x11, x12, x13, x80, x389000, x389001, x389002, x403000, x403001, x403002, x403003, x403004 => if x80 = true then (if 0 ≤ x13 then (if x13 < (x9.length : Int) then (if 0 ≤ x8 then (if x8 < (x389000.length : Int) then (if x13 < (((rd_T44 x389000 x8).f3).length : Int) then (if (rd x9 x13) = (rd ((rd_T44 x389000 x8).f3) x13) then (splicelaw13_PatchEquation.l1 k x1 x7 x8 x9 x11 x12 (wrap64 (x13 + 1)) x389000 x389001 x389002 x403000 x403001 x403002 x403003 x403004) else (none)) else (none)) else (none)) else (none)) else (none)) else (none)) else (if 0 ≤ x11 then (if x11 < (x12.length : Int) then (if 0 ≤ x13 then (if x13 < (x9.length : Int) then ((spliceref02_Get.f (rd x9 x13)).bind fun bt416 => (if 0 ≤ x8 then (if x8 < (x389000.length : Int) then (if x13 < (((rd_T44 x389000 x8).f3).length : Int) then ((spliceref02_Get.f (rd ((rd_T44 x389000 x8).f3) x13)).bind fun bt425 => (if bt416.2.2.2.2.2 = true then (if bt425.2.2.2.2.2 = true then (splicelaw13_PatchEquation.j4 k x1 x7 x8 x9 (wrap64 (x11 + 1)) x12 x13 bt416.2.2.2.2.1 (!(bt416.1 == bt425.1) || (!(bt416.2.1 == bt425.2.1) || (!(bt416.2.2.1 == bt425.2.2.1) || (!(bt416.2.2.2.1 == bt425.2.2.2.1))))) x389000 x389001 x389002 x403000 x403001 x403002 x403003 x403004 ((rd_T46 x12 x11).f0) ((rd_T46 x12 x11).f1) ((rd_T46 x12 x11).f2) ((rd_T46 x12 x11).f3)) else (splicelaw13_PatchEquation.j4 k x1 x7 x8 x9 (wrap64 (x11 + 1)) x12 x13 bt416.2.2.2.2.1 true x389000 x389001 x389002 x403000 x403001 x403002 x403003 x403004 ((rd_T46 x12 x11).f0) ((rd_T46 x12 x11).f1) ((rd_T46 x12 x11).f2) ((rd_T46 x12 x11).f3))) else (splicelaw13_PatchEquation.j4 k x1 x7 x8 x9 (wrap64 (x11 + 1)) x12 x13 bt416.2.2.2.2.1 true x389000 x389001 x389002 x403000 x403001 x403002 x403003 x403004 ((rd_T46 x12 x11).f0) ((rd_T46 x12 x11).f1) ((rd_T46 x12 x11).f2) ((rd_T46 x12 x11).f3)))) else (none)) else (none)) else (none))) else (none)) else (none)) else (none)) else (none))
def splicelaw13_PatchEquation.j4 : Nat → List Int → Int → Int → List Int → Int → List (S46) → Int → Int → Bool → List (S44) → List (S55) → Int → List Int → List Int → Int → Int → Int → Int → Int → Int → Int → Option (Bool)
  | 0, _, _, _, _, _, _, _, _, _, _, _, _, _, _, _, _, _, _, _, _, _ => none
  | k + 1, x1, x7, x8, x9, x11, x12, x13, x19, x137, x389000, x389001, x389002, x403000, x403001, x403002, x403003, x403004, x415000, x415001, x415002, x415003 => if x137 = true then (none) else (if x415001 = 1 then (if 0 ≤ x8 then (if x8 < (x403000.length : Int) then (if 0 ≤ x415002 then (if x415002 < (x403000.length : Int) then (splicelaw13_PatchEquation.j5 k x1 x7 x8 x9 x11 x12 x13 x19 ((wrap64 ((wrap64 ((wrap64 ((rd x403000 x8) + x13)) + 1)) + x19)) != (rd x403000 x415002)) x389000 x389001 x389002 x403000 x403001 x403002 x403003 x403004 x415000 x415001 x415002 x415003) else (none)) else (none)) else (none)) else (none)) else (splicelaw13_PatchEquation.j5 k x1 x7 x8 x9 x11 x12 x13 x19 false x389000 x389001 x389002 x403000 x403001 x403002 x403003 x403004 x415000 x415001 x415002 x415003))
def splicelaw13_PatchEquation.j5 : Nat → List Int → Int → Int → List Int → Int → List (S46) → Int → Int → Bool → List (S44) → List (S55) → Int → List Int → List Int → Int → Int → Int → Int → Int → Int → Int → Option (Bool)
  | 0, _, _, _, _, _, _, _, _, _, _, _, _, _, _, _, _, _, _, _, _, _ => none
  | k + 1, x1, x7, x8, x9, x11, x12, x13, x19, x159, x389000, x389001, x389002, x403000, x403001, x403002, x403003, x403004, x415000, x415001, x415002, x415003 => if x159 = true then (none) else (if x415001 = 2 then (if 0 ≤ x415002 then (if x415002 < (x403001.length : Int) then (if x19 = (wrap64 (Int.tdiv (wrap64 ((wrap64 (65536 + (rd x403001 x415002))) + x415003)) 65536)) then (if x415001 = 3 then (if x19 = (Int.tmod (wrap64 ((wrap64 (65536 + (rd x403001 x415002))) + x415003)) 65536) then (splicelaw13_PatchEquation.l1 k x1 x7 x8 x9 x11 x12 (wrap64 (x13 + 1)) x389000 x389001 x389002 x403000 x403001 x403002 x403003 x403004) else (none)) else (splicelaw13_PatchEquation.l1 k x1 x7 x8 x9 x11 x12 (wrap64 (x13 + 1)) x389000 x389001 x389002 x403000 x403001 x403002 x403003 x403004)) else (none)) else (none)) else (none)) else (if x415001 = 3 then (if 0 ≤ x415002 then (if x415002 < (x403001.length : Int) then (if x19 = (Int.tmod (wrap64 ((wrap64 (65536 + (rd x403001 x415002))) + x415003)) 65536) then (splicelaw13_PatchEquation.l1 k x1 x7 x8 x9 x11 x12 (wrap64 (x13 + 1)) x389000 x389001 x389002 x403000 x403001 x403002 x403003 x403004) else (none)) else (none)) else (none)) else (splicelaw13_PatchEquation.l1 k x1 x7 x8 x9 x11 x12 (wrap64 (x13 + 1)) x389000 x389001 x389002 x403000 x403001 x403002 x403003 x403004)))
end
def splicelaw13_PatchEquation.f (k : Nat) (l0_0 : List (S44)) (l0_1 : List (S55)) (a0_2 : Int) (l1 : List Int) : Option (Bool) := (splicelaw13_awake.f k).bind fun t389 => (if t389 = true then ((splicelaw13_fine.f k l0_0 l0_1 a0_2 l1).bind fun t390 => (splicelaw13_PatchEquation.j0 k l1 (!t390) l0_0 l0_1 a0_2)) else (splicelaw13_PatchEquation.j0 k l1 true l0_0 l0_1 a0_2))
theorem splicelaw13_PatchEquation.mono_l : ∀ k, (∀ y0 y1 y2 y3 y4, LeO (splicelaw13_PatchEquation.j0 k y0 y1 y2 y3 y4) (splicelaw13_PatchEquation.j0 (k + 1) y0 y1 y2 y3 y4)) ∧ (∀ y0 y1 y2 y3 y4 y5 y6 y7 y8 y9, LeO (splicelaw13_PatchEquation.l0 k y0 y1 y2 y3 y4 y5 y6 y7 y8 y9) (splicelaw13_PatchEquation.l0 (k + 1) y0 y1 y2 y3 y4 y5 y6 y7 y8 y9)) ∧ (∀ y0 y1 y2 y3 y4 y5 y6 y7 y8 y9 y10 y11 y12 y13 y14, LeO (splicelaw13_PatchEquation.l1 k y0 y1 y2 y3 y4 y5 y6 y7 y8 y9 y10 y11 y12 y13 y14) (splicelaw13_PatchEquation.l1 (k + 1) y0 y1 y2 y3 y4 y5 y6 y7 y8 y9 y10 y11 y12 y13 y14)) ∧ (∀ y0 y1 y2 y3 y4 y5 y6 y7 y8 y9 y10 y11 y12 y13 y14 y15, LeO (splicelaw13_PatchEquation.j3 k y0 y1 y2 y3 y4 y5 y6 y7 y8 y9 y10 y11 y12 y13 y14 y15) (splicelaw13_PatchEquation.j3 (k + 1) y0 y1 y2 y3 y4 y5 y6 y7 y8 y9 y10 y11 y12 y13 y14 y15)) ∧ (∀ y0 y1 y2 y3 y4 y5 y6 y7 y8 y9 y10 y11 y12 y13 y14 y15 y16 y17 y18 y19 y20, LeO (splicelaw13_PatchEquation.j4 k y0 y1 y2 y3 y4 y5 y6 y7 y8 y9 y10 y11 y12 y13 y14 y15 y16 y17 y18 y19 y20) (splicelaw13_PatchEquation.j4 (k + 1) y0 y1 y2 y3 y4 y5 y6 y7 y8 y9 y10 y11 y12 y13 y14 y15 y16 y17 y18 y19 y20)) ∧ (∀ y0 y1 y2 y3 y4 y5 y6 y7 y8 y9 y10 y11 y12 y13 y14 y15 y16 y17 y18 y19 y20, LeO (splicelaw13_PatchEquation.j5 k y0 y1 y2 y3 y4 y5 y6 y7 y8 y9 y10 y11 y12 y13 y14 y15 y16 y17 y18 y19 y20) (splicelaw13_PatchEquation.j5 (k + 1) y0 y1 y2 y3 y4 y5 y6 y7 y8 y9 y10 y11 y12 y13 y14 y15 y16 y17 y18 y19 y20))
  | 0 => ⟨fun _ _ _ _ _ r h => by simp [splicelaw13_PatchEquation.j0] at h, fun _ _ _ _ _ _ _ _ _ _ r h => by simp [splicelaw13_PatchEquation.l0] at h, fun _ _ _ _ _ _ _ _ _ _ _ _ _ _ _ r h => by simp [splicelaw13_PatchEquation.l1] at h, fun _ _ _ _ _ _ _ _ _ _ _ _ _ _ _ _ r h => by simp [splicelaw13_PatchEquation.j3] at h, fun _ _ _ _ _ _ _ _ _ _ _ _ _ _ _ _ _ _ _ _ _ r h => by simp [splicelaw13_PatchEquation.j4] at h, fun _ _ _ _ _ _ _ _ _ _ _ _ _ _ _ _ _ _ _ _ _ r h => by simp [splicelaw13_PatchEquation.j5] at h⟩
  | k + 1 => by
    obtain ⟨ih0, ih1, ih2, ih3, ih4, ih5⟩ := splicelaw13_PatchEquation.mono_l k
    refine ⟨?_, ?_, ?_, ?_, ?_, ?_⟩
    · intro y0 y1 y2 y3 y4
      unfold splicelaw13_PatchEquation.j0
      repeat' first
      | (with_reducible exact ih0 _ _ _ _ _)
      | (with_reducible exact ih1 _ _ _ _ _ _ _ _ _ _)
      | (with_reducible exact ih2 _ _ _ _ _ _ _ _ _ _ _ _ _ _ _)
      | (with_reducible exact ih3 _ _ _ _ _ _ _ _ _ _ _ _ _ _ _ _)
      | (with_reducible exact ih4 _ _ _ _ _ _ _ _ _ _ _ _ _ _ _ _ _ _ _ _ _)
      | (with_reducible exact ih5 _ _ _ _ _ _ _ _ _ _ _ _ _ _ _ _ _ _ _ _ _)
      | (with_reducible exact patch_Code.mono _ _ _ _ _ _ _ _ _ _)
      | (with_reducible exact place_Plan.mono _ _ _ _ _)
      | (with_reducible exact splicelaw13_awake.mono _)
      | (with_reducible exact splicelaw13_fine.mono _ _ _ _ _)
      | (with_reducible exact LeO.refl _)
      | (with_reducible exact LeO.none _)
      | (with_reducible refine LeO.ite ?_ ?_)
      | (with_reducible refine LeO.bind ?_ (fun _ => ?_))
    · intro y0 y1 y2 y3 y4 y5 y6 y7 y8 y9
      unfold splicelaw13_PatchEquation.l0
      repeat' first
      | (with_reducible exact ih0 _ _ _ _ _)
      | (with_reducible exact ih1 _ _ _ _ _ _ _ _ _ _)
      | (with_reducible exact ih2 _ _ _ _ _ _ _ _ _ _ _ _ _ _ _)
      | (with_reducible exact ih3 _ _ _ _ _ _ _ _ _ _ _ _ _ _ _ _)
      | (with_reducible exact ih4 _ _ _ _ _ _ _ _ _ _ _ _ _ _ _ _ _ _ _ _ _)
      | (with_reducible exact ih5 _ _ _ _ _ _ _ _ _ _ _ _ _ _ _ _ _ _ _ _ _)
      | (with_reducible exact patch_Code.mono _ _ _ _ _ _ _ _ _ _)
      | (with_reducible exact place_Plan.mono _ _ _ _ _)
      | (with_reducible exact splicelaw13_awake.mono _)
      | (with_reducible exact splicelaw13_fine.mono _ _ _ _ _)
      | (with_reducible exact LeO.refl _)
      | (with_reducible exact LeO.none _)
      | (with_reducible refine LeO.ite ?_ ?_)
      | (with_reducible refine LeO.bind ?_ (fun _ => ?_))
    · intro y0 y1 y2 y3 y4 y5 y6 y7 y8 y9 y10 y11 y12 y13 y14
      unfold splicelaw13_PatchEquation.l1
      repeat' first
      | (with_reducible exact ih0 _ _ _ _ _)
      | (with_reducible exact ih1 _ _ _ _ _ _ _ _ _ _)
      | (with_reducible exact ih2 _ _ _ _ _ _ _ _ _ _ _ _ _ _ _)
      | (with_reducible exact ih3 _ _ _ _ _ _ _ _ _ _ _ _ _ _ _ _)
      | (with_reducible exact ih4 _ _ _ _ _ _ _ _ _ _ _ _ _ _ _ _ _ _ _ _ _)
      | (with_reducible exact ih5 _ _ _ _ _ _ _ _ _ _ _ _ _ _ _ _ _ _ _ _ _)
      | (with_reducible exact patch_Code.mono _ _ _ _ _ _ _ _ _ _)
      | (with_reducible exact place_Plan.mono _ _ _ _ _)
      | (with_reducible exact splicelaw13_awake.mono _)
      | (with_reducible exact splicelaw13_fine.mono _ _ _ _ _)
      | (with_reducible exact LeO.refl _)
      | (with_reducible exact LeO.none _)
      | (with_reducible refine LeO.ite ?_ ?_)
      | (with_reducible refine LeO.bind ?_ (fun _ => ?_))
    · intro y0 y1 y2 y3 y4 y5 y6 y7 y8 y9 y10 y11 y12 y13 y14 y15
      unfold splicelaw13_PatchEquation.j3
      repeat' first
      | (with_reducible exact ih0 _ _ _ _ _)
      | (with_reducible exact ih1 _ _ _ _ _ _ _ _ _ _)
      | (with_reducible exact ih2 _ _ _ _ _ _ _ _ _ _ _ _ _ _ _)
      | (with_reducible exact ih3 _ _ _ _ _ _ _ _ _ _ _ _ _ _ _ _)
      | (with_reducible exact ih4 _ _ _ _ _ _ _ _ _ _ _ _ _ _ _ _ _ _ _ _ _)
      | (with_reducible exact ih5 _ _ _ _ _ _ _ _ _ _ _ _ _ _ _ _ _ _ _ _ _)
      | (with_reducible exact patch_Code.mono _ _ _ _ _ _ _ _ _ _)
      | (with_reducible exact place_Plan.mono _ _ _ _ _)
      | (with_reducible exact splicelaw13_awake.mono _)
      | (with_reducible exact splicelaw13_fine.mono _ _ _ _ _)
      | (with_reducible exact LeO.refl _)
      | (with_reducible exact LeO.none _)
      | (with_reducible refine LeO.ite ?_ ?_)
      | (with_reducible refine LeO.bind ?_ (fun _ => ?_))
    · intro y0 y1 y2 y3 y4 y5 y6 y7 y8 y9 y10 y11 y12 y13 y14 y15 y16 y17 y18 y19 y20
      unfold splicelaw13_PatchEquation.j4
      repeat' first
      | (with_reducible exact ih0 _ _ _ _ _)
      | (with_reducible exact ih1 _ _ _ _ _ _ _ _ _ _)
      | (with_reducible exact ih2 _ _ _ _ _ _ _ _ _ _ _ _ _ _ _)
      | (with_reducible exact ih3 _ _ _ _ _ _ _ _ _ _ _ _ _ _ _ _)
      | (with_reducible exact ih4 _ _ _ _ _ _ _ _ _ _ _ _ _ _ _ _ _ _ _ _ _)
      | (with_reducible exact ih5 _ _ _ _ _ _ _ _ _ _ _ _ _ _ _ _ _ _ _ _ _)
      | (with_reducible exact patch_Code.mono _ _ _ _ _ _ _ _ _ _)
      | (with_reducible exact place_Plan.mono _ _ _ _ _)
      | (with_reducible exact splicelaw13_awake.mono _)
      | (with_reducible exact splicelaw13_fine.mono _ _ _ _ _)
      | (with_reducible exact LeO.refl _)
      | (with_reducible exact LeO.none _)
      | (with_reducible refine LeO.ite ?_ ?_)
      | (with_reducible refine LeO.bind ?_ (fun _ => ?_))
    · intro y0 y1 y2 y3 y4 y5 y6 y7 y8 y9 y10 y11 y12 y13 y14 y15 y16 y17 y18 y19 y20
      unfold splicelaw13_PatchEquation.j5
      repeat' first
      | (with_reducible exact ih0 _ _ _ _ _)
      | (with_reducible exact ih1 _ _ _ _ _ _ _ _ _ _)
      | (with_reducible exact ih2 _ _ _ _ _ _ _ _ _ _ _ _ _ _ _)
      | (with_reducible exact ih3 _ _ _ _ _ _ _ _ _ _ _ _ _ _ _ _)
      | (with_reducible exact ih4 _ _ _ _ _ _ _ _ _ _ _ _ _ _ _ _ _ _ _ _ _)
      | (with_reducible exact ih5 _ _ _ _ _ _ _ _ _ _ _ _ _ _ _ _ _ _ _ _ _)
      | (with_reducible exact patch_Code.mono _ _ _ _ _ _ _ _ _ _)
      | (with_reducible exact place_Plan.mono _ _ _ _ _)
      | (with_reducible exact splicelaw13_awake.mono _)
      | (with_reducible exact splicelaw13_fine.mono _ _ _ _ _)
      | (with_reducible exact LeO.refl _)
      | (with_reducible exact LeO.none _)
      | (with_reducible refine LeO.ite ?_ ?_)
      | (with_reducible refine LeO.bind ?_ (fun _ => ?_))
theorem splicelaw13_PatchEquation.mono : ∀ a0 a1 a2 a3 k, LeO (splicelaw13_PatchEquation.f k a0 a1 a2 a3) (splicelaw13_PatchEquation.f (k + 1) a0 a1 a2 a3) := by
  intro a0 a1 a2 a3 k
  obtain ⟨ih0, ih1, ih2, ih3, ih4, ih5⟩ := splicelaw13_PatchEquation.mono_l k
  unfold splicelaw13_PatchEquation.f
  repeat' first
      | (with_reducible exact ih0 _ _ _ _ _)
      | (with_reducible exact ih1 _ _ _ _ _ _ _ _ _ _)
      | (with_reducible exact ih2 _ _ _ _ _ _ _ _ _ _ _ _ _ _ _)
      | (with_reducible exact ih3 _ _ _ _ _ _ _ _ _ _ _ _ _ _ _ _)
      | (with_reducible exact ih4 _ _ _ _ _ _ _ _ _ _ _ _ _ _ _ _ _ _ _ _ _)
      | (with_reducible exact ih5 _ _ _ _ _ _ _ _ _ _ _ _ _ _ _ _ _ _ _ _ _)
      | (with_reducible exact patch_Code.mono _ _ _ _ _ _ _ _ _ _)
      | (with_reducible exact place_Plan.mono _ _ _ _ _)
      | (with_reducible exact splicelaw13_awake.mono _)
      | (with_reducible exact splicelaw13_fine.mono _ _ _ _ _)
      | (with_reducible exact LeO.refl _)
      | (with_reducible exact LeO.none _)
      | (with_reducible refine LeO.ite ?_ ?_)
      | (with_reducible refine LeO.bind ?_ (fun _ => ?_))
def splicelaw13_PatchEquation.Pure : Prop := ∀ (x0 : S25) (x1 : List Int), (W25 x0) → (x1.length * 8 ≤ 140737488351232 ∧ ∀ x_ ∈ x1, I64 x_) → ∃ k, splicelaw13_PatchEquation.f k x0.f0 x0.f1 x0.f2 x1 = some true

end Go.Proofs.Ytdnfofhfllnhiaa.Q
