-- Written by drv.py and splitd.py, programs of this session. Not trusted: Lean checks it.
import Derived.Test.YtdnfofhfllnhiaaQD0
namespace Go.Proofs.Ytdnfofhfllnhiaa.Q
open Go.RowKit Go.Proofs.YtdnfofhfllnhiaaW.PrintWords Go.Proofs.YtdnfofhfllnhiaaW.PrintLast Go.Proofs.YtdnfofhfllnhiaaW.PrintMore
set_option linter.unusedVariables false
set_option linter.unusedSimpArgs false
/-! ### spliceref13_Code: function 12 -/
mutual
def spliceref13_Code.l0 : Nat → Int → List Int → Int → List (S44) → List (S55) → Int → List Int → List Int → Int → Int → Int → Option (List Int × Int)
  | 0, _, _, _, _, _, _, _, _, _, _, _ => none
  | k + 1, x2, x8, x9, x280000, x280001, x280002, x281000, x281001, x281002, x281003, x281004 => if 0 ≤ x2 then (if x2 < (x280000.length : Int) then (if x9 < (((rd_T44 x280000 x2).f4).length : Int) then (if 0 ≤ x9 then (if 0 ≤ ((rd_T46 ((rd_T44 x280000 x2).f4) x9).f0) then (if ((rd_T46 ((rd_T44 x280000 x2).f4) x9).f0) < (x8.length : Int) then ((spliceref02_Get.f (rd x8 ((rd_T46 ((rd_T44 x280000 x2).f4) x9).f0))).bind fun bt293 => (if ((rd_T46 ((rd_T44 x280000 x2).f4) x9).f1) = 1 then (if 0 ≤ ((rd_T46 ((rd_T44 x280000 x2).f4) x9).f2) then (if ((rd_T46 ((rd_T44 x280000 x2).f4) x9).f2) < (x281000.length : Int) then (if (rd x281000 ((rd_T46 ((rd_T44 x280000 x2).f4) x9).f2)) < 0 then (some (([] : List Int), 7)) else (if x2 < (x281000.length : Int) then (if (wrap64 ((rd x281000 ((rd_T46 ((rd_T44 x280000 x2).f4) x9).f2)) - (wrap64 ((wrap64 ((rd x281000 x2) + ((rd_T46 ((rd_T44 x280000 x2).f4) x9).f0))) + 1)))) < (-8388608) then (some (([] : List Int), 7)) else (if (wrap64 ((rd x281000 ((rd_T46 ((rd_T44 x280000 x2).f4) x9).f2)) - (wrap64 ((wrap64 ((rd x281000 x2) + ((rd_T46 ((rd_T44 x280000 x2).f4) x9).f0))) + 1)))) > 8388607 then (some (([] : List Int), 7)) else ((spliceref02_Put.f k bt293.1 bt293.2.1 bt293.2.2.1 bt293.2.2.2.1 (wrap64 ((rd x281000 ((rd_T46 ((rd_T44 x280000 x2).f4) x9).f2)) - (wrap64 ((wrap64 ((rd x281000 x2) + ((rd_T46 ((rd_T44 x280000 x2).f4) x9).f0))) + 1))))).bind fun t303 => (spliceref13_Code.l0 k x2 (x8.set (((rd_T46 ((rd_T44 x280000 x2).f4) x9).f0) : Int).toNat t303) (wrap64 (x9 + 1)) x280000 x280001 x280002 x281000 x281001 x281002 x281003 x281004)))) else (none))) else (none)) else (none)) else (if 0 ≤ ((rd_T46 ((rd_T44 x280000 x2).f4) x9).f2) then (if ((rd_T46 ((rd_T44 x280000 x2).f4) x9).f2) < (x281001.length : Int) then (if (wrap64 ((wrap64 (65536 + (rd x281001 ((rd_T46 ((rd_T44 x280000 x2).f4) x9).f2)))) + ((rd_T46 ((rd_T44 x280000 x2).f4) x9).f3))) < 0 then (spliceref13_Code.j1 k x2 x8 x9 (wrap64 ((wrap64 (65536 + (rd x281001 ((rd_T46 ((rd_T44 x280000 x2).f4) x9).f2)))) + ((rd_T46 ((rd_T44 x280000 x2).f4) x9).f3))) true x280000 x280001 x280002 x281000 x281001 x281002 x281003 x281004 ((rd_T46 ((rd_T44 x280000 x2).f4) x9).f0) ((rd_T46 ((rd_T44 x280000 x2).f4) x9).f1) ((rd_T46 ((rd_T44 x280000 x2).f4) x9).f2) ((rd_T46 ((rd_T44 x280000 x2).f4) x9).f3) bt293.1 bt293.2.1 bt293.2.2.1 bt293.2.2.2.1 bt293.2.2.2.2.1) else (spliceref13_Code.j1 k x2 x8 x9 (wrap64 ((wrap64 (65536 + (rd x281001 ((rd_T46 ((rd_T44 x280000 x2).f4) x9).f2)))) + ((rd_T46 ((rd_T44 x280000 x2).f4) x9).f3))) (decide ((wrap64 ((wrap64 (65536 + (rd x281001 ((rd_T46 ((rd_T44 x280000 x2).f4) x9).f2)))) + ((rd_T46 ((rd_T44 x280000 x2).f4) x9).f3))) > 4294967295)) x280000 x280001 x280002 x281000 x281001 x281002 x281003 x281004 ((rd_T46 ((rd_T44 x280000 x2).f4) x9).f0) ((rd_T46 ((rd_T44 x280000 x2).f4) x9).f1) ((rd_T46 ((rd_T44 x280000 x2).f4) x9).f2) ((rd_T46 ((rd_T44 x280000 x2).f4) x9).f3) bt293.1 bt293.2.1 bt293.2.2.1 bt293.2.2.2.1 bt293.2.2.2.2.1)) else (none)) else (none)))) else (none)) else (none)) else (none)) else (some (x8, 0))) else (none)) else (none)
def spliceref13_Code.j1 : Nat → Int → List Int → Int → Int → Bool → List (S44) → List (S55) → Int → List Int → List Int → Int → Int → Int → Int → Int → Int → Int → Int → Int → Int → Int → Int → Option (List Int × Int)
  | 0, _, _, _, _, _, _, _, _, _, _, _, _, _, _, _, _, _, _, _, _, _, _ => none
  | k + 1, x2, x8, x9, x13, x101, x280000, x280001, x280002, x281000, x281001, x281002, x281003, x281004, x292000, x292001, x292002, x292003, x300000, x300001, x300002, x300003, x300004 => if x101 = true then (some (([] : List Int), 7)) else (if x292001 = 3 then ((spliceref02_Put.f k x300000 x300001 x300002 x300003 (Int.tmod x13 65536)).bind fun t306 => (if 0 ≤ x292000 then (if x292000 < (x8.length : Int) then (spliceref13_Code.l0 k x2 (x8.set (x292000 : Int).toNat t306) (wrap64 (x9 + 1)) x280000 x280001 x280002 x281000 x281001 x281002 x281003 x281004) else (none)) else (none))) else ((spliceref02_Put.f k x300000 x300001 x300002 x300003 (wrap64 (Int.tdiv x13 65536))).bind fun t308 => (if 0 ≤ x292000 then (if x292000 < (x8.length : Int) then (spliceref13_Code.l0 k x2 (x8.set (x292000 : Int).toNat t308) (wrap64 (x9 + 1)) x280000 x280001 x280002 x281000 x281001 x281002 x281003 x281004) else (none)) else (none))))
end
def spliceref13_Code.f (k : Nat) (l0_0 : List (S44)) (l0_1 : List (S55)) (a0_2 : Int) (l1_0 : List Int) (l1_1 : List Int) (a1_2 : Int) (a1_3 : Int) (a1_4 : Int) (a2 : Int) : Option (List Int × Int) := (some (([] : List Int) : List Int)).bind fun y281 => (if 0 ≤ a2 then (if a2 < (l0_0.length : Int) then (if y281.length + ((rd_T44 l0_0 a2).f3).length < 35184372088832 then (spliceref13_Code.l0 k a2 (y281 ++ ((rd_T44 l0_0 a2).f3)) 0 l0_0 l0_1 a0_2 l1_0 l1_1 a1_2 a1_3 a1_4) else (none)) else (none)) else (none))
theorem spliceref13_Code.mono_l : ∀ k, (∀ y0 y1 y2 y3 y4 y5 y6 y7 y8 y9 y10, LeO (spliceref13_Code.l0 k y0 y1 y2 y3 y4 y5 y6 y7 y8 y9 y10) (spliceref13_Code.l0 (k + 1) y0 y1 y2 y3 y4 y5 y6 y7 y8 y9 y10)) ∧ (∀ y0 y1 y2 y3 y4 y5 y6 y7 y8 y9 y10 y11 y12 y13 y14 y15 y16 y17 y18 y19 y20 y21, LeO (spliceref13_Code.j1 k y0 y1 y2 y3 y4 y5 y6 y7 y8 y9 y10 y11 y12 y13 y14 y15 y16 y17 y18 y19 y20 y21) (spliceref13_Code.j1 (k + 1) y0 y1 y2 y3 y4 y5 y6 y7 y8 y9 y10 y11 y12 y13 y14 y15 y16 y17 y18 y19 y20 y21))
  | 0 => ⟨fun _ _ _ _ _ _ _ _ _ _ _ r h => by simp [spliceref13_Code.l0] at h, fun _ _ _ _ _ _ _ _ _ _ _ _ _ _ _ _ _ _ _ _ _ _ r h => by simp [spliceref13_Code.j1] at h⟩
  | k + 1 => by
    obtain ⟨ih0, ih1⟩ := spliceref13_Code.mono_l k
    refine ⟨?_, ?_⟩
    · intro y0 y1 y2 y3 y4 y5 y6 y7 y8 y9 y10
      unfold spliceref13_Code.l0
      repeat' first
      | (with_reducible exact ih0 _ _ _ _ _ _ _ _ _ _ _)
      | (with_reducible exact ih1 _ _ _ _ _ _ _ _ _ _ _ _ _ _ _ _ _ _ _ _ _ _)
      | (with_reducible exact spliceref02_Put.mono _ _ _ _ _ _)
      | (with_reducible exact LeO.refl _)
      | (with_reducible exact LeO.none _)
      | (with_reducible refine LeO.ite ?_ ?_)
      | (with_reducible refine LeO.bind ?_ (fun _ => ?_))
    · intro y0 y1 y2 y3 y4 y5 y6 y7 y8 y9 y10 y11 y12 y13 y14 y15 y16 y17 y18 y19 y20 y21
      unfold spliceref13_Code.j1
      repeat' first
      | (with_reducible exact ih0 _ _ _ _ _ _ _ _ _ _ _)
      | (with_reducible exact ih1 _ _ _ _ _ _ _ _ _ _ _ _ _ _ _ _ _ _ _ _ _ _)
      | (with_reducible exact spliceref02_Put.mono _ _ _ _ _ _)
      | (with_reducible exact LeO.refl _)
      | (with_reducible exact LeO.none _)
      | (with_reducible refine LeO.ite ?_ ?_)
      | (with_reducible refine LeO.bind ?_ (fun _ => ?_))
theorem spliceref13_Code.mono : ∀ a0 a1 a2 a3 a4 a5 a6 a7 a8 k, LeO (spliceref13_Code.f k a0 a1 a2 a3 a4 a5 a6 a7 a8) (spliceref13_Code.f (k + 1) a0 a1 a2 a3 a4 a5 a6 a7 a8) := by
  intro a0 a1 a2 a3 a4 a5 a6 a7 a8 k
  obtain ⟨ih0, ih1⟩ := spliceref13_Code.mono_l k
  unfold spliceref13_Code.f
  repeat' first
      | (with_reducible exact ih0 _ _ _ _ _ _ _ _ _ _ _)
      | (with_reducible exact ih1 _ _ _ _ _ _ _ _ _ _ _ _ _ _ _ _ _ _ _ _ _ _)
      | (with_reducible exact spliceref02_Put.mono _ _ _ _ _ _)
      | (with_reducible exact LeO.refl _)
      | (with_reducible exact LeO.none _)
      | (with_reducible refine LeO.ite ?_ ?_)
      | (with_reducible refine LeO.bind ?_ (fun _ => ?_))
/-! ### splicelaw13_PatchCodes: function 3 -/
mutual
def splicelaw13_PatchCodes.j0 : Nat → List Int → Bool → List (S44) → List (S55) → Int → Option (Bool)
  | 0, _, _, _, _, _ => none
  | k + 1, x1, x19, x313000, x313001, x313002 => if x19 = true then ((splicelaw13_awake.f k).bind fun t315 => (some t315)) else ((place_Plan.f k x313000 x313001 x313002 x1).bind fun bt316 => (if bt316.2.2.2.2.2 = 0 then (splicelaw13_PatchCodes.l0 k x1 0 x313000 x313001 x313002 bt316.1 bt316.2.1 bt316.2.2.1 bt316.2.2.2.1 bt316.2.2.2.2.1) else (some true)))
def splicelaw13_PatchCodes.l0 : Nat → List Int → Int → List (S44) → List (S55) → Int → List Int → List Int → Int → Int → Int → Option (Bool)
  | 0, _, _, _, _, _, _, _, _, _, _ => none
  | k + 1, x1, x7, x313000, x313001, x313002, x327000, x327001, x327002, x327003, x327004 => if x7 < (x1.length : Int) then (if 0 ≤ x7 then ((patch_Code.f k x313000 x313001 x313002 x327000 x327001 x327002 x327003 x327004 (rd x1 x7)).bind fun bt328 => ((spliceref13_Code.f k x313000 x313001 x313002 x327000 x327001 x327002 x327003 x327004 (rd x1 x7)).bind fun bt333 => (if bt328.2 = bt333.2 then ((spliceref01_Words.f k bt328.1 bt333.1).bind fun t337 => (if t337 = true then (splicelaw13_PatchCodes.l0 k x1 (wrap64 (x7 + 1)) x313000 x313001 x313002 x327000 x327001 x327002 x327003 x327004) else (none))) else (none)))) else (none)) else (some true)
end
def splicelaw13_PatchCodes.f (k : Nat) (l0_0 : List (S44)) (l0_1 : List (S55)) (a0_2 : Int) (l1 : List Int) : Option (Bool) := (splicelaw13_awake.f k).bind fun t313 => (if t313 = true then ((splicelaw13_fine.f k l0_0 l0_1 a0_2 l1).bind fun t314 => (splicelaw13_PatchCodes.j0 k l1 (!t314) l0_0 l0_1 a0_2)) else (splicelaw13_PatchCodes.j0 k l1 true l0_0 l0_1 a0_2))
theorem splicelaw13_PatchCodes.mono_l : ∀ k, (∀ y0 y1 y2 y3 y4, LeO (splicelaw13_PatchCodes.j0 k y0 y1 y2 y3 y4) (splicelaw13_PatchCodes.j0 (k + 1) y0 y1 y2 y3 y4)) ∧ (∀ y0 y1 y2 y3 y4 y5 y6 y7 y8 y9, LeO (splicelaw13_PatchCodes.l0 k y0 y1 y2 y3 y4 y5 y6 y7 y8 y9) (splicelaw13_PatchCodes.l0 (k + 1) y0 y1 y2 y3 y4 y5 y6 y7 y8 y9))
  | 0 => ⟨fun _ _ _ _ _ r h => by simp [splicelaw13_PatchCodes.j0] at h, fun _ _ _ _ _ _ _ _ _ _ r h => by simp [splicelaw13_PatchCodes.l0] at h⟩
  | k + 1 => by
    obtain ⟨ih0, ih1⟩ := splicelaw13_PatchCodes.mono_l k
    refine ⟨?_, ?_⟩
    · intro y0 y1 y2 y3 y4
      unfold splicelaw13_PatchCodes.j0
      repeat' first
      | (with_reducible exact ih0 _ _ _ _ _)
      | (with_reducible exact ih1 _ _ _ _ _ _ _ _ _ _)
      | (with_reducible exact patch_Code.mono _ _ _ _ _ _ _ _ _ _)
      | (with_reducible exact place_Plan.mono _ _ _ _ _)
      | (with_reducible exact splicelaw13_awake.mono _)
      | (with_reducible exact splicelaw13_fine.mono _ _ _ _ _)
      | (with_reducible exact spliceref01_Words.mono _ _ _)
      | (with_reducible exact spliceref13_Code.mono _ _ _ _ _ _ _ _ _ _)
      | (with_reducible exact LeO.refl _)
      | (with_reducible exact LeO.none _)
      | (with_reducible refine LeO.ite ?_ ?_)
      | (with_reducible refine LeO.bind ?_ (fun _ => ?_))
    · intro y0 y1 y2 y3 y4 y5 y6 y7 y8 y9
      unfold splicelaw13_PatchCodes.l0
      repeat' first
      | (with_reducible exact ih0 _ _ _ _ _)
      | (with_reducible exact ih1 _ _ _ _ _ _ _ _ _ _)
      | (with_reducible exact patch_Code.mono _ _ _ _ _ _ _ _ _ _)
      | (with_reducible exact place_Plan.mono _ _ _ _ _)
      | (with_reducible exact splicelaw13_awake.mono _)
      | (with_reducible exact splicelaw13_fine.mono _ _ _ _ _)
      | (with_reducible exact spliceref01_Words.mono _ _ _)
      | (with_reducible exact spliceref13_Code.mono _ _ _ _ _ _ _ _ _ _)
      | (with_reducible exact LeO.refl _)
      | (with_reducible exact LeO.none _)
      | (with_reducible refine LeO.ite ?_ ?_)
      | (with_reducible refine LeO.bind ?_ (fun _ => ?_))
theorem splicelaw13_PatchCodes.mono : ∀ a0 a1 a2 a3 k, LeO (splicelaw13_PatchCodes.f k a0 a1 a2 a3) (splicelaw13_PatchCodes.f (k + 1) a0 a1 a2 a3) := by
  intro a0 a1 a2 a3 k
  obtain ⟨ih0, ih1⟩ := splicelaw13_PatchCodes.mono_l k
  unfold splicelaw13_PatchCodes.f
  repeat' first
      | (with_reducible exact ih0 _ _ _ _ _)
      | (with_reducible exact ih1 _ _ _ _ _ _ _ _ _ _)
      | (with_reducible exact patch_Code.mono _ _ _ _ _ _ _ _ _ _)
      | (with_reducible exact place_Plan.mono _ _ _ _ _)
      | (with_reducible exact splicelaw13_awake.mono _)
      | (with_reducible exact splicelaw13_fine.mono _ _ _ _ _)
      | (with_reducible exact spliceref01_Words.mono _ _ _)
      | (with_reducible exact spliceref13_Code.mono _ _ _ _ _ _ _ _ _ _)
      | (with_reducible exact LeO.refl _)
      | (with_reducible exact LeO.none _)
      | (with_reducible refine LeO.ite ?_ ?_)
      | (with_reducible refine LeO.bind ?_ (fun _ => ?_))
def splicelaw13_PatchCodes.Pure : Prop := ∀ (x0 : S25) (x1 : List Int), (W25 x0) → (x1.length * 8 ≤ 140737488351232 ∧ ∀ x_ ∈ x1, I64 x_) → ∃ k, splicelaw13_PatchCodes.f k x0.f0 x0.f1 x0.f2 x1 = some true

end Go.Proofs.Ytdnfofhfllnhiaa.Q
