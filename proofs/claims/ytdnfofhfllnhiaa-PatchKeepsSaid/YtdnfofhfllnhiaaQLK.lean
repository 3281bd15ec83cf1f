-- Written by drv.py and splitd.py, programs of this session. Not trusted: Lean checks it.
import Derived.Test.YtdnfofhfllnhiaaQD0
namespace Go.Proofs.Ytdnfofhfllnhiaa.Q
open Go.RowKit Go.Proofs.YtdnfofhfllnhiaaW.PrintWords Go.Proofs.YtdnfofhfllnhiaaW.PrintLast Go.Proofs.YtdnfofhfllnhiaaW.PrintMore
set_option linter.unusedVariables false
set_option linter.unusedSimpArgs false
/-! ### splicelaw13_PatchKeeps: function 7 -/
mutual
def splicelaw13_PatchKeeps.j0 : Nat → List Int → Bool → List (S44) → List (S55) → Int → Option (Bool)
  | 0, _, _, _, _, _ => none
  | k + 1, x3, x25, x487000, x487001, x487002 => if x25 = true then ((splicelaw13_awake.f k).bind fun t492 => (some t492)) else ((place_Plan.f k x487000 x487001 x487002 x3).bind fun bt493 => (if bt493.2.2.2.2.2 = 0 then (splicelaw13_PatchKeeps.l0 k x3 0 x487000 x487001 x487002 bt493.1 bt493.2.1 bt493.2.2.1 bt493.2.2.2.1 bt493.2.2.2.2.1) else (some true)))
def splicelaw13_PatchKeeps.l0 : Nat → List Int → Int → List (S44) → List (S55) → Int → List Int → List Int → Int → Int → Int → Option (Bool)
  | 0, _, _, _, _, _, _, _, _, _, _ => none
  | k + 1, x3, x6, x487000, x487001, x487002, x504000, x504001, x504002, x504003, x504004 => if x6 < (x3.length : Int) then ((some (([] : List Int) : List Int)).bind fun y504 => (if 0 ≤ x6 then (if x6 < (x487000.length : Int) then (if y504.length + ((rd_T44 x487000 x6).f3).length < 35184372088832 then ((patch_Code.f k x487000 x487001 x487002 x504000 x504001 x504002 x504003 x504004 x6).bind fun bt511 => (splicelaw13_PatchKeeps.l1 k x3 x6 (y504 ++ ((rd_T44 x487000 x6).f3)) bt511.1 0 x487000 x487001 x487002 x504000 x504001 x504002 x504003 x504004)) else (none)) else (none)) else (none))) else (splicelaw13_PatchKeeps.l2 k 0 x487000 x487001 x487002 x504000 x504001 x504002 x504003 x504004)
def splicelaw13_PatchKeeps.l1 : Nat → List Int → Int → List Int → List Int → Int → List (S44) → List (S55) → Int → List Int → List Int → Int → Int → Int → Option (Bool)
  | 0, _, _, _, _, _, _, _, _, _, _, _, _, _ => none
  | k + 1, x3, x6, x7, x8, x10, x487000, x487001, x487002, x504000, x504001, x504002, x504003, x504004 => if x10 < (x8.length : Int) then (if 0 ≤ x10 then (splicelaw13_PatchKeeps.l1 k x3 x6 x7 (x8.set (x10 : Int).toNat 7) (wrap64 (x10 + 1)) x487000 x487001 x487002 x504000 x504001 x504002 x504003 x504004) else (none)) else (if 0 ≤ x6 then (if x6 < (x487000.length : Int) then ((spliceref01_Words.f k ((rd_T44 x487000 x6).f3) x7).bind fun t517 => (if t517 = true then (splicelaw13_PatchKeeps.l0 k x3 (wrap64 (x6 + 1)) x487000 x487001 x487002 x504000 x504001 x504002 x504003 x504004) else (none))) else (none)) else (none))
def splicelaw13_PatchKeeps.l2 : Nat → Int → List (S44) → List (S55) → Int → List Int → List Int → Int → Int → Int → Option (Bool)
  | 0, _, _, _, _, _, _, _, _, _ => none
  | k + 1, x11, x487000, x487001, x487002, x504000, x504001, x504002, x504003, x504004 => if x11 < (x487001.length : Int) then ((some (([] : List Int) : List Int)).bind fun y518 => (if 0 ≤ x11 then (if y518.length + ((rd_T55 x487001 x11).f3).length < 140737488355328 then ((patch_Data.f x487000 x487001 x487002 x504000 x504001 x504002 x504003 x504004 x11).bind fun bt525 => (splicelaw13_PatchKeeps.l3 k x11 (y518 ++ ((rd_T55 x487001 x11).f3)) bt525.1 0 x487000 x487001 x487002 x504000 x504001 x504002 x504003 x504004)) else (none)) else (none))) else (some true)
def splicelaw13_PatchKeeps.l3 : Nat → Int → List Int → List Int → Int → List (S44) → List (S55) → Int → List Int → List Int → Int → Int → Int → Option (Bool)
  | 0, _, _, _, _, _, _, _, _, _, _, _, _ => none
  | k + 1, x11, x12, x13, x15, x487000, x487001, x487002, x504000, x504001, x504002, x504003, x504004 => if x15 < (x13.length : Int) then (if 0 ≤ x15 then (splicelaw13_PatchKeeps.l3 k x11 x12 (x13.set (x15 : Int).toNat 7) (wrap64 (x15 + 1)) x487000 x487001 x487002 x504000 x504001 x504002 x504003 x504004) else (none)) else (if 0 ≤ x11 then (if x11 < (x487001.length : Int) then ((spliceref01_Same.f k ((rd_T55 x487001 x11).f3) x12).bind fun t531 => (if t531 = true then (splicelaw13_PatchKeeps.l2 k (wrap64 (x11 + 1)) x487000 x487001 x487002 x504000 x504001 x504002 x504003 x504004) else (none))) else (none)) else (none))
end
def splicelaw13_PatchKeeps.f (k : Nat) (l0_0 : List (S44)) (l0_1 : List (S55)) (a0_2 : Int) : Option (Bool) := (place_All.f k l0_0 l0_1 a0_2).bind fun t487 => ((splicelaw13_awake.f k).bind fun t490 => (if t490 = true then ((splicelaw13_fine.f k l0_0 l0_1 a0_2 t487).bind fun t491 => (splicelaw13_PatchKeeps.j0 k t487 (!t491) l0_0 l0_1 a0_2)) else (splicelaw13_PatchKeeps.j0 k t487 true l0_0 l0_1 a0_2)))
theorem splicelaw13_PatchKeeps.mono_l : ∀ k, (∀ y0 y1 y2 y3 y4, LeO (splicelaw13_PatchKeeps.j0 k y0 y1 y2 y3 y4) (splicelaw13_PatchKeeps.j0 (k + 1) y0 y1 y2 y3 y4)) ∧ (∀ y0 y1 y2 y3 y4 y5 y6 y7 y8 y9, LeO (splicelaw13_PatchKeeps.l0 k y0 y1 y2 y3 y4 y5 y6 y7 y8 y9) (splicelaw13_PatchKeeps.l0 (k + 1) y0 y1 y2 y3 y4 y5 y6 y7 y8 y9)) ∧ (∀ y0 y1 y2 y3 y4 y5 y6 y7 y8 y9 y10 y11 y12, LeO (splicelaw13_PatchKeeps.l1 k y0 y1 y2 y3 y4 y5 y6 y7 y8 y9 y10 y11 y12) (splicelaw13_PatchKeeps.l1 (k + 1) y0 y1 y2 y3 y4 y5 y6 y7 y8 y9 y10 y11 y12)) ∧ (∀ y0 y1 y2 y3 y4 y5 y6 y7 y8, LeO (splicelaw13_PatchKeeps.l2 k y0 y1 y2 y3 y4 y5 y6 y7 y8) (splicelaw13_PatchKeeps.l2 (k + 1) y0 y1 y2 y3 y4 y5 y6 y7 y8)) ∧ (∀ y0 y1 y2 y3 y4 y5 y6 y7 y8 y9 y10 y11, LeO (splicelaw13_PatchKeeps.l3 k y0 y1 y2 y3 y4 y5 y6 y7 y8 y9 y10 y11) (splicelaw13_PatchKeeps.l3 (k + 1) y0 y1 y2 y3 y4 y5 y6 y7 y8 y9 y10 y11))
  | 0 => ⟨fun _ _ _ _ _ r h => by simp [splicelaw13_PatchKeeps.j0] at h, fun _ _ _ _ _ _ _ _ _ _ r h => by simp [splicelaw13_PatchKeeps.l0] at h, fun _ _ _ _ _ _ _ _ _ _ _ _ _ r h => by simp [splicelaw13_PatchKeeps.l1] at h, fun _ _ _ _ _ _ _ _ _ r h => by simp [splicelaw13_PatchKeeps.l2] at h, fun _ _ _ _ _ _ _ _ _ _ _ _ r h => by simp [splicelaw13_PatchKeeps.l3] at h⟩
  | k + 1 => by
    obtain ⟨ih0, ih1, ih2, ih3, ih4⟩ := splicelaw13_PatchKeeps.mono_l k
    refine ⟨?_, ?_, ?_, ?_, ?_⟩
    · intro y0 y1 y2 y3 y4
      unfold splicelaw13_PatchKeeps.j0
      repeat' first
      | (with_reducible exact ih0 _ _ _ _ _)
      | (with_reducible exact ih1 _ _ _ _ _ _ _ _ _ _)
      | (with_reducible exact ih2 _ _ _ _ _ _ _ _ _ _ _ _ _)
      | (with_reducible exact ih3 _ _ _ _ _ _ _ _ _)
      | (with_reducible exact ih4 _ _ _ _ _ _ _ _ _ _ _ _)
      | (with_reducible exact patch_Code.mono _ _ _ _ _ _ _ _ _ _)
      | (with_reducible exact place_All.mono _ _ _ _)
      | (with_reducible exact place_Plan.mono _ _ _ _ _)
      | (with_reducible exact splicelaw13_awake.mono _)
      | (with_reducible exact splicelaw13_fine.mono _ _ _ _ _)
      | (with_reducible exact spliceref01_Same.mono _ _ _)
      | (with_reducible exact spliceref01_Words.mono _ _ _)
      | (with_reducible exact LeO.refl _)
      | (with_reducible exact LeO.none _)
      | (with_reducible refine LeO.ite ?_ ?_)
      | (with_reducible refine LeO.bind ?_ (fun _ => ?_))
    · intro y0 y1 y2 y3 y4 y5 y6 y7 y8 y9
      unfold splicelaw13_PatchKeeps.l0
      repeat' first
      | (with_reducible exact ih0 _ _ _ _ _)
      | (with_reducible exact ih1 _ _ _ _ _ _ _ _ _ _)
      | (with_reducible exact ih2 _ _ _ _ _ _ _ _ _ _ _ _ _)
      | (with_reducible exact ih3 _ _ _ _ _ _ _ _ _)
      | (with_reducible exact ih4 _ _ _ _ _ _ _ _ _ _ _ _)
      | (with_reducible exact patch_Code.mono _ _ _ _ _ _ _ _ _ _)
      | (with_reducible exact place_All.mono _ _ _ _)
      | (with_reducible exact place_Plan.mono _ _ _ _ _)
      | (with_reducible exact splicelaw13_awake.mono _)
      | (with_reducible exact splicelaw13_fine.mono _ _ _ _ _)
      | (with_reducible exact spliceref01_Same.mono _ _ _)
      | (with_reducible exact spliceref01_Words.mono _ _ _)
      | (with_reducible exact LeO.refl _)
      | (with_reducible exact LeO.none _)
      | (with_reducible refine LeO.ite ?_ ?_)
      | (with_reducible refine LeO.bind ?_ (fun _ => ?_))
    · intro y0 y1 y2 y3 y4 y5 y6 y7 y8 y9 y10 y11 y12
      unfold splicelaw13_PatchKeeps.l1
      repeat' first
      | (with_reducible exact ih0 _ _ _ _ _)
      | (with_reducible exact ih1 _ _ _ _ _ _ _ _ _ _)
      | (with_reducible exact ih2 _ _ _ _ _ _ _ _ _ _ _ _ _)
      | (with_reducible exact ih3 _ _ _ _ _ _ _ _ _)
      | (with_reducible exact ih4 _ _ _ _ _ _ _ _ _ _ _ _)
      | (with_reducible exact patch_Code.mono _ _ _ _ _ _ _ _ _ _)
      | (with_reducible exact place_All.mono _ _ _ _)
      | (with_reducible exact place_Plan.mono _ _ _ _ _)
      | (with_reducible exact splicelaw13_awake.mono _)
      | (with_reducible exact splicelaw13_fine.mono _ _ _ _ _)
      | (with_reducible exact spliceref01_Same.mono _ _ _)
      | (with_reducible exact spliceref01_Words.mono _ _ _)
      | (with_reducible exact LeO.refl _)
      | (with_reducible exact LeO.none _)
      | (with_reducible refine LeO.ite ?_ ?_)
      | (with_reducible refine LeO.bind ?_ (fun _ => ?_))
    · intro y0 y1 y2 y3 y4 y5 y6 y7 y8
      unfold splicelaw13_PatchKeeps.l2
      repeat' first
      | (with_reducible exact ih0 _ _ _ _ _)
      | (with_reducible exact ih1 _ _ _ _ _ _ _ _ _ _)
      | (with_reducible exact ih2 _ _ _ _ _ _ _ _ _ _ _ _ _)
      | (with_reducible exact ih3 _ _ _ _ _ _ _ _ _)
      | (with_reducible exact ih4 _ _ _ _ _ _ _ _ _ _ _ _)
      | (with_reducible exact patch_Code.mono _ _ _ _ _ _ _ _ _ _)
      | (with_reducible exact place_All.mono _ _ _ _)
      | (with_reducible exact place_Plan.mono _ _ _ _ _)
      | (with_reducible exact splicelaw13_awake.mono _)
      | (with_reducible exact splicelaw13_fine.mono _ _ _ _ _)
      | (with_reducible exact spliceref01_Same.mono _ _ _)
      | (with_reducible exact spliceref01_Words.mono _ _ _)
      | (with_reducible exact LeO.refl _)
      | (with_reducible exact LeO.none _)
      | (with_reducible refine LeO.ite ?_ ?_)
      | (with_reducible refine LeO.bind ?_ (fun _ => ?_))
    · intro y0 y1 y2 y3 y4 y5 y6 y7 y8 y9 y10 y11
      unfold splicelaw13_PatchKeeps.l3
      repeat' first
      | (with_reducible exact ih0 _ _ _ _ _)
      | (with_reducible exact ih1 _ _ _ _ _ _ _ _ _ _)
      | (with_reducible exact ih2 _ _ _ _ _ _ _ _ _ _ _ _ _)
      | (with_reducible exact ih3 _ _ _ _ _ _ _ _ _)
      | (with_reducible exact ih4 _ _ _ _ _ _ _ _ _ _ _ _)
      | (with_reducible exact patch_Code.mono _ _ _ _ _ _ _ _ _ _)
      | (with_reducible exact place_All.mono _ _ _ _)
      | (with_reducible exact place_Plan.mono _ _ _ _ _)
      | (with_reducible exact splicelaw13_awake.mono _)
      | (with_reducible exact splicelaw13_fine.mono _ _ _ _ _)
      | (with_reducible exact spliceref01_Same.mono _ _ _)
      | (with_reducible exact spliceref01_Words.mono _ _ _)
      | (with_reducible exact LeO.refl _)
      | (with_reducible exact LeO.none _)
      | (with_reducible refine LeO.ite ?_ ?_)
      | (with_reducible refine LeO.bind ?_ (fun _ => ?_))
theorem splicelaw13_PatchKeeps.mono : ∀ a0 a1 a2 k, LeO (splicelaw13_PatchKeeps.f k a0 a1 a2) (splicelaw13_PatchKeeps.f (k + 1) a0 a1 a2) := by
  intro a0 a1 a2 k
  obtain ⟨ih0, ih1, ih2, ih3, ih4⟩ := splicelaw13_PatchKeeps.mono_l k
  unfold splicelaw13_PatchKeeps.f
  repeat' first
      | (with_reducible exact ih0 _ _ _ _ _)
      | (with_reducible exact ih1 _ _ _ _ _ _ _ _ _ _)
      | (with_reducible exact ih2 _ _ _ _ _ _ _ _ _ _ _ _ _)
      | (with_reducible exact ih3 _ _ _ _ _ _ _ _ _)
      | (with_reducible exact ih4 _ _ _ _ _ _ _ _ _ _ _ _)
      | (with_reducible exact patch_Code.mono _ _ _ _ _ _ _ _ _ _)
      | (with_reducible exact place_All.mono _ _ _ _)
      | (with_reducible exact place_Plan.mono _ _ _ _ _)
      | (with_reducible exact splicelaw13_awake.mono _)
      | (with_reducible exact splicelaw13_fine.mono _ _ _ _ _)
      | (with_reducible exact spliceref01_Same.mono _ _ _)
      | (with_reducible exact spliceref01_Words.mono _ _ _)
      | (with_reducible exact LeO.refl _)
      | (with_reducible exact LeO.none _)
      | (with_reducible refine LeO.ite ?_ ?_)
      | (with_reducible refine LeO.bind ?_ (fun _ => ?_))
def splicelaw13_PatchKeeps.Pure : Prop := ∀ (x0 : S25), (W25 x0) → ∃ k, splicelaw13_PatchKeeps.f k x0.f0 x0.f1 x0.f2 = some true


end Go.Proofs.Ytdnfofhfllnhiaa.Q
