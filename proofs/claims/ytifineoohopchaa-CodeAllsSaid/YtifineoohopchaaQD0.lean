-- Written by drv.py, a program of this session, over the kit's print, out of the translation. Not trusted: Lean checks it.
import Derived.Test.YtifineoohopchaaQ0
import Derived.Test.YtifineoohopchaaQF
import Derived.Test.YtifineoohopchaaHfd
import Derived.Test.YtifineoohopchaaHrgd
namespace Go.Proofs.Ytifineoohopchaa.Q
open Go.RowKit Go.Proofs.YtifineoohopchaaW.PrintWords Go.Proofs.YtifineoohopchaaW.PrintLast Go.Proofs.YtifineoohopchaaW.PrintMore
attribute [local go_sem] max2_int min2_int max_two min_two max_three min_three max_four min_four   -- for this text's walks alone
set_option linter.unusedVariables false
set_option linter.unusedSimpArgs false

def W23 (x : S23) : Prop := I64 x.f0 ∧ I64 x.f1 ∧ I64 x.f2 ∧ I64 x.f3 ∧ I64 x.f4
/-! ### code_register: function 22 -/
def code_register.f (a0 : Int) (a1 : Bool) : Option (Bool) := if a0 = 0 then (some true) else (if a1 = true then (if a0 > 0 then (some (decide (a0 < 16))) else (some false)) else (some false))
/-! ### bits_may: function 33 -/
def bits_may.f (a0 : Int) : Option (Bool) := if a0 ≥ 1 then (some (decide (a0 ≤ 32))) else (some false)
/-! ### bits_Fits: function 34 -/
def bits_Fits.f (a0 : Int) (a1 : Int) : Option (Bool) := (bits_may.f a1).bind fun t101 => (if t101 = true then (if 0 ≤ (wrap64 (a1 - 1)) then (if a0 ≥ (shl .i64 (-1) (wrap64 (a1 - 1))) then (some (decide (a0 < (shl .i64 1 (wrap64 (a1 - 1)))))) else (some false)) else (none)) else (some false))
/-! ### code_form_imm: function 23 -/
def code_form_imm.f (a0_0 : Bool) (a0_1 : Bool) (a0_2 : Bool) (a0_3 : Int) (a0_4 : Bool) (a1 : Int) : Option (Bool) := if a0_3 = 0 then (some (a1 == 0)) else (if a0_4 = true then (if a1 ≥ 0 then (if 0 ≤ a0_3 then (some (decide (a1 < (shl .i64 1 a0_3)))) else (none)) else (some false)) else ((bits_Fits.f a1 a0_3).bind fun t103 => (some t103)))
/-! ### code_Right: function 11 -/
def code_Right.j0 : Nat → Bool → Int → Int → Int → Int → Int → Option (Bool)
  | 0, _, _, _, _, _, _ => none
  | k + 1, x11, x105000, x105001, x105002, x105003, x105004 => if x11 = true then (some false) else ((code_forms.f).bind fun t105 => (if 0 ≤ x105000 then (if x105000 < 26 then ((code_register.f x105001 (form_a x105000)).bind fun t107 => (if t107 = true then ((code_register.f x105002 (form_b x105000)).bind fun t108 => (if t108 = true then ((code_register.f x105003 (form_c x105000)).bind fun t109 => (if t109 = true then ((code_form_imm.f (form_a x105000) (form_b x105000) (form_c x105000) (form_w x105000) (form_p x105000) x105004).bind fun t110 => (some t110)) else (some false))) else (some false))) else (some false))) else (none)) else (none)))
def code_Right.f (k : Nat) (a0_0 : Int) (a0_1 : Int) (a0_2 : Int) (a0_3 : Int) (a0_4 : Int) : Option (Bool) := if a0_0 < 0 then (code_Right.j0 k true a0_0 a0_1 a0_2 a0_3 a0_4) else (code_Right.j0 k (decide (a0_0 ≥ 26)) a0_0 a0_1 a0_2 a0_3 a0_4)
theorem code_Right.mono_l : ∀ k, (∀ y0 y1 y2 y3 y4 y5, LeO (code_Right.j0 k y0 y1 y2 y3 y4 y5) (code_Right.j0 (k + 1) y0 y1 y2 y3 y4 y5))
  | 0 => fun _ _ _ _ _ _ r h => by simp [code_Right.j0] at h
  | k + 1 => by
    have ih0 := code_Right.mono_l k
    · intro y0 y1 y2 y3 y4 y5
      unfold code_Right.j0
      repeat' first
      | (with_reducible exact ih0 _ _ _ _ _ _)
      | (with_reducible exact LeO.refl _)
      | (with_reducible exact LeO.none _)
      | (with_reducible refine LeO.ite ?_ ?_)
      | (with_reducible refine LeO.bind ?_ (fun _ => ?_))
      | exact ih0 _ _ _ _ _ _
      | exact LeO.none _
      | refine LeO.ite ?_ ?_
      | refine LeO.bind ?_ (fun _ => ?_)
theorem code_Right.mono : ∀ a0 a1 a2 a3 a4 k, LeO (code_Right.f k a0 a1 a2 a3 a4) (code_Right.f (k + 1) a0 a1 a2 a3 a4) := by
  intro a0 a1 a2 a3 a4 k
  have ih0 := code_Right.mono_l k
  unfold code_Right.f
  repeat' first
      | (with_reducible exact ih0 _ _ _ _ _ _)
      | (with_reducible exact LeO.refl _)
      | (with_reducible exact LeO.none _)
      | (with_reducible refine LeO.ite ?_ ?_)
      | (with_reducible refine LeO.bind ?_ (fun _ => ?_))
      | exact ih0 _ _ _ _ _ _
      | exact LeO.none _
      | refine LeO.ite ?_ ?_
      | refine LeO.bind ?_ (fun _ => ?_)
/-! ### bits_Cut: function 21 -/
def bits_Cut.f (a0 : Int) (a1 : Int) : Option (Int) := (bits_may.f a1).bind fun t111 => (if t111 = true then (if 0 ≤ a1 then (some ((Go.bits .and .u64 (IntKind.u64.wrap (a0)) (IntKind.u64.wrap ((shl .u64 1 a1) - 1))) % 4294967296)) else (none)) else (some 0))
/-! ### code_Put: function 9 -/
def code_Put.f (k : Nat) (a0_0 : Int) (a0_1 : Int) (a0_2 : Int) (a0_3 : Int) (a0_4 : Int) : Option (Int × Int) := (code_Right.f k a0_0 a0_1 a0_2 a0_3 a0_4).bind fun t113 => (if t113 = true then ((code_forms.f).bind fun t114 => (if 0 ≤ a0_0 then (if a0_0 < 26 then (if (form_w a0_0) > 0 then ((bits_Cut.f a0_4 (form_w a0_0)).bind fun t115 => (some (Go.bits .or .u32 (Go.bits .or .u32 (Go.bits .or .u32 (Go.bits .or .u32 ((((a0_0) % 4294967296) * 16777216) % 4294967296) ((((a0_1) % 4294967296) * 1048576) % 4294967296)) ((((a0_2) % 4294967296) * 65536) % 4294967296)) ((a0_3) % 4294967296)) t115, 0))) else (some (Go.bits .or .u32 (Go.bits .or .u32 (Go.bits .or .u32 ((((a0_0) % 4294967296) * 16777216) % 4294967296) ((((a0_1) % 4294967296) * 1048576) % 4294967296)) ((((a0_2) % 4294967296) * 65536) % 4294967296)) ((a0_3) % 4294967296), 0))) else (none)) else (none))) else (some (0, 3)))
theorem code_Put.mono : ∀ a0 a1 a2 a3 a4 k, LeO (code_Put.f k a0 a1 a2 a3 a4) (code_Put.f (k + 1) a0 a1 a2 a3 a4) := by
  intro a0 a1 a2 a3 a4 k
  unfold code_Put.f
  repeat' first
      | (with_reducible exact code_Right.mono _ _ _ _ _ _)
      | (with_reducible exact LeO.refl _)
      | (with_reducible exact LeO.none _)
      | (with_reducible refine LeO.ite ?_ ?_)
      | (with_reducible refine LeO.bind ?_ (fun _ => ?_))
      | exact code_Right.mono _ _ _ _ _ _
      | exact LeO.none _
      | refine LeO.ite ?_ ?_
      | refine LeO.bind ?_ (fun _ => ?_)
/-! ### bits_Sign: function 31 -/
def bits_Sign.f (a0 : Int) (a1 : Int) : Option (Int) := (bits_may.f a1).bind fun t116 => (if t116 = true then (if 0 ≤ (wrap64 (64 - a1)) then (some (shr .i64 (wrap64 (shl .u64 (IntKind.u64.wrap (a0)) (wrap64 (64 - a1)))) (wrap64 (64 - a1)))) else (none)) else (some 0))
/-! ### code_Get: function 14 -/
def code_Get.j0 : Nat → Int → Int → Int → Int → Int → Int → Bool → Bool → Bool → Int → Bool → Option (Int × Int × Int × Int × Int × Int)
  | 0, _, _, _, _, _, _, _, _, _, _, _ => none
  | k + 1, x0, x119000, x119001, x119002, x119003, x119004, x121000, x121001, x121002, x121003, x121004 => if x121002 = true then ((code_Put.f k x119000 x119001 x119002 (wrap64 (Go.bits .and .u32 x0 15)) x119004).bind fun bt121 => (if bt121.2 = 0 then (if bt121.1 = x0 then (some (x119000, x119001, x119002, wrap64 (Go.bits .and .u32 x0 15), x119004, 0)) else (some (0, 0, 0, 0, 0, 3))) else (some (0, 0, 0, 0, 0, 3)))) else (if x121004 = true then ((code_Put.f k x119000 x119001 x119002 x119003 (wrap64 (Go.bits .and .u32 x0 65535))).bind fun bt123 => (if bt123.2 = 0 then (if bt123.1 = x0 then (some (x119000, x119001, x119002, x119003, wrap64 (Go.bits .and .u32 x0 65535), 0)) else (some (0, 0, 0, 0, 0, 3))) else (some (0, 0, 0, 0, 0, 3)))) else (if x121003 > 0 then ((bits_Sign.f x0 x121003).bind fun t125 => ((code_Put.f k x119000 x119001 x119002 x119003 t125).bind fun bt126 => (if bt126.2 = 0 then (if bt126.1 = x0 then (some (x119000, x119001, x119002, x119003, t125, 0)) else (some (0, 0, 0, 0, 0, 3))) else (some (0, 0, 0, 0, 0, 3))))) else ((code_Put.f k x119000 x119001 x119002 x119003 x119004).bind fun bt128 => (if bt128.2 = 0 then (if bt128.1 = x0 then (some (x119000, x119001, x119002, x119003, x119004, 0)) else (some (0, 0, 0, 0, 0, 3))) else (some (0, 0, 0, 0, 0, 3))))))
def code_Get.f (k : Nat) (a0 : Int) : Option (Int × Int × Int × Int × Int × Int) := if (wrap64 (a0 / 16777216)) ≥ 26 then (some (0, 0, 0, 0, 0, 3)) else ((code_forms.f).bind fun t119 => (if 0 ≤ (wrap64 (a0 / 16777216)) then (if (wrap64 (a0 / 16777216)) < 26 then (if (form_w (wrap64 (a0 / 16777216))) < 24 then (code_Get.j0 k a0 (wrap64 (a0 / 16777216)) (wrap64 (Go.bits .and .u32 (a0 / 1048576) 15)) (wrap64 (Go.bits .and .u32 (a0 / 65536) 15)) 0 0 (form_a (wrap64 (a0 / 16777216))) (form_b (wrap64 (a0 / 16777216))) (form_c (wrap64 (a0 / 16777216))) (form_w (wrap64 (a0 / 16777216))) (form_p (wrap64 (a0 / 16777216)))) else (code_Get.j0 k a0 (wrap64 (a0 / 16777216)) 0 0 0 0 (form_a (wrap64 (a0 / 16777216))) (form_b (wrap64 (a0 / 16777216))) (form_c (wrap64 (a0 / 16777216))) (form_w (wrap64 (a0 / 16777216))) (form_p (wrap64 (a0 / 16777216))))) else (none)) else (none)))
theorem code_Get.mono_l : ∀ k, (∀ y0 y1 y2 y3 y4 y5 y6 y7 y8 y9 y10, LeO (code_Get.j0 k y0 y1 y2 y3 y4 y5 y6 y7 y8 y9 y10) (code_Get.j0 (k + 1) y0 y1 y2 y3 y4 y5 y6 y7 y8 y9 y10))
  | 0 => fun _ _ _ _ _ _ _ _ _ _ _ r h => by simp [code_Get.j0] at h
  | k + 1 => by
    have ih0 := code_Get.mono_l k
    · intro y0 y1 y2 y3 y4 y5 y6 y7 y8 y9 y10
      unfold code_Get.j0
      repeat' first
      | (with_reducible exact ih0 _ _ _ _ _ _ _ _ _ _ _)
      | (with_reducible exact code_Put.mono _ _ _ _ _ _)
      | (with_reducible exact LeO.refl _)
      | (with_reducible exact LeO.none _)
      | (with_reducible refine LeO.ite ?_ ?_)
      | (with_reducible refine LeO.bind ?_ (fun _ => ?_))
      | exact ih0 _ _ _ _ _ _ _ _ _ _ _
      | exact code_Put.mono _ _ _ _ _ _
      | exact LeO.none _
      | refine LeO.ite ?_ ?_
      | refine LeO.bind ?_ (fun _ => ?_)
theorem code_Get.mono : ∀ a0 k, LeO (code_Get.f k a0) (code_Get.f (k + 1) a0) := by
  intro a0 k
  have ih0 := code_Get.mono_l k
  unfold code_Get.f
  repeat' first
      | (with_reducible exact ih0 _ _ _ _ _ _ _ _ _ _ _)
      | (with_reducible exact code_Put.mono _ _ _ _ _ _)
      | (with_reducible exact LeO.refl _)
      | (with_reducible exact LeO.none _)
      | (with_reducible refine LeO.ite ?_ ?_)
      | (with_reducible refine LeO.bind ?_ (fun _ => ?_))
      | exact ih0 _ _ _ _ _ _ _ _ _ _ _
      | exact code_Put.mono _ _ _ _ _ _
      | exact LeO.none _
      | refine LeO.ite ?_ ?_
      | refine LeO.bind ?_ (fun _ => ?_)
/-! ### splicelaw02_awake: function 10 -/
def splicelaw02_awake.f (k : Nat)  : Option (Bool) := (code_Put.f k 8 1 0 0 (-1)).bind fun bt130 => ((code_Get.f k 335544318).bind fun bt132 => ((code_Get.f k 4278190080).bind fun bt139 => (if bt130.2 = 0 then (if bt130.1 = 135331839 then (if bt132.2.2.2.2.2 = 0 then (if (bt132.1 == 19 && (bt132.2.1 == 0 && (bt132.2.2.1 == 0 && (bt132.2.2.2.1 == 0 && (bt132.2.2.2.2.1 == (-2)))))) = true then (if bt139.2.2.2.2.2 = 3 then ((code_Right.f k bt132.1 bt132.2.1 bt132.2.2.1 bt132.2.2.2.1 bt132.2.2.2.2.1).bind fun t146 => (some t146)) else (none)) else (none)) else (none)) else (none)) else (none))))
theorem splicelaw02_awake.mono : ∀ k, LeO (splicelaw02_awake.f k ) (splicelaw02_awake.f (k + 1) ) := by
  intro  k
  unfold splicelaw02_awake.f
  repeat' first
      | (with_reducible exact code_Get.mono _ _)
      | (with_reducible exact code_Put.mono _ _ _ _ _ _)
      | (with_reducible exact code_Right.mono _ _ _ _ _ _)
      | (with_reducible exact LeO.refl _)
      | (with_reducible exact LeO.none _)
      | (with_reducible refine LeO.ite ?_ ?_)
      | (with_reducible refine LeO.bind ?_ (fun _ => ?_))
      | exact code_Get.mono _ _
      | exact code_Put.mono _ _ _ _ _ _
      | exact code_Right.mono _ _ _ _ _ _
      | exact LeO.none _
      | refine LeO.ite ?_ ?_
      | refine LeO.bind ?_ (fun _ => ?_)
/-! ### spliceref02_three: function 24 -/
def spliceref02_three.f (a0 : Int) : Option (Bool) := if a0 ≥ 1 then (some (decide (a0 ≤ 7))) else (some false)
/-! ### spliceref02_reg: function 25 -/
def spliceref02_reg.f (a0 : Int) : Option (Bool) := if a0 ≥ 0 then (some (decide (a0 ≤ 15))) else (some false)
/-! ### spliceref02_near: function 26 -/
def spliceref02_near.f (a0 : Int) : Option (Bool) := if a0 = 8 then (some true) else (if a0 ≥ 11 then (some (decide (a0 ≤ 14))) else (some false))
/-! ### spliceref02_branch: function 27 -/
def spliceref02_branch.f (a0 : Int) : Option (Bool) := if a0 ≥ 15 then (some (decide (a0 ≤ 18))) else (some false)
/-! ### spliceref02_one: function 28 -/
def spliceref02_one.f (a0 : Int) : Option (Bool) := if a0 = 0 then (some true) else (if a0 = 22 then (some true) else (some (a0 == 23)))
/-! ### spliceref02_far: function 29 -/
def spliceref02_far.f (a0 : Int) : Option (Bool) := if a0 = 19 then (some true) else (some (a0 == 20))
/-! ### spliceref02_Right: function 12 -/
def spliceref02_Right.f (a0_0 : Int) (a0_1 : Int) (a0_2 : Int) (a0_3 : Int) (a0_4 : Int) : Option (Bool) := (spliceref02_three.f a0_0).bind fun t148 => (if t148 = true then ((spliceref02_reg.f a0_1).bind fun t149 => (if t149 = true then ((spliceref02_reg.f a0_2).bind fun t150 => (if t150 = true then ((spliceref02_reg.f a0_3).bind fun t151 => (if t151 = true then (some (a0_4 == 0)) else (some false))) else (some false))) else (some false))) else (if a0_3 = 0 then ((spliceref02_near.f a0_0).bind fun t152 => (if t152 = true then ((spliceref02_reg.f a0_1).bind fun t153 => (if t153 = true then ((spliceref02_reg.f a0_2).bind fun t154 => (if t154 = true then (if a0_4 ≥ (-32768) then (some (decide (a0_4 ≤ 32767))) else (some false)) else (some false))) else (some false))) else (if a0_0 = 10 then ((spliceref02_reg.f a0_1).bind fun t155 => (if t155 = true then ((spliceref02_reg.f a0_2).bind fun t156 => (if t156 = true then (if a0_4 ≥ 0 then (some (decide (a0_4 ≤ 65535))) else (some false)) else (some false))) else (some false))) else ((spliceref02_branch.f a0_0).bind fun t157 => (if t157 = true then ((spliceref02_reg.f a0_1).bind fun t158 => (if t158 = true then ((spliceref02_reg.f a0_2).bind fun t159 => (if t159 = true then (if a0_4 ≥ (-128) then (some (decide (a0_4 ≤ 127))) else (some false)) else (some false))) else (some false))) else (if a0_2 = 0 then (if a0_0 = 9 then ((spliceref02_reg.f a0_1).bind fun t160 => (if t160 = true then (if a0_4 ≥ 0 then (some (decide (a0_4 ≤ 65535))) else (some false)) else (some false))) else ((spliceref02_one.f a0_0).bind fun t161 => (if t161 = true then ((spliceref02_reg.f a0_1).bind fun t162 => (if t162 = true then (some (a0_4 == 0)) else (some false))) else ((spliceref02_far.f a0_0).bind fun t163 => (if t163 = true then (if a0_1 = 0 then (if a0_4 ≥ (-8388608) then (some (decide (a0_4 ≤ 8388607))) else (some false)) else (some false)) else (if a0_0 = 21 then (if a0_1 = 0 then (some (a0_4 == 0)) else (some false)) else (if a0_0 = 24 then (if a0_1 = 0 then (some (a0_4 == 0)) else (some false)) else (if a0_0 = 25 then (if a0_1 = 0 then (some (a0_4 == 0)) else (some false)) else (some false))))))))) else (some false))))))) else (some false)))
/-! ### spliceref01_Mod: function 35 -/
def spliceref01_Mod.f (a0 : Int) (a1 : Int) : Option (Int) := if a1 = 0 then (none) else (if (Int.tmod a0 a1) < 0 then (some (wrap64 ((Int.tmod a0 a1) + a1))) else (some (Int.tmod a0 a1)))
/-! ### spliceref01_Power: function 36 -/
def spliceref01_Power.l0 : Nat → Int → Int → Int → Option (Int)
  | 0, _, _, _ => none
  | k + 1, x0, x3, x4 => if x4 < x0 then (spliceref01_Power.l0 k x0 (wrap64 (2 * x3)) (wrap64 (x4 + 1))) else (some x3)
def spliceref01_Power.f (k : Nat) (a0 : Int) : Option (Int) := spliceref01_Power.l0 k a0 1 0
theorem spliceref01_Power.mono_l : ∀ k, (∀ y0 y1 y2, LeO (spliceref01_Power.l0 k y0 y1 y2) (spliceref01_Power.l0 (k + 1) y0 y1 y2))
  | 0 => fun _ _ _ r h => by simp [spliceref01_Power.l0] at h
  | k + 1 => by
    have ih0 := spliceref01_Power.mono_l k
    · intro y0 y1 y2
      unfold spliceref01_Power.l0
      repeat' first
      | (with_reducible exact ih0 _ _ _)
      | (with_reducible exact LeO.refl _)
      | (with_reducible exact LeO.none _)
      | (with_reducible refine LeO.ite ?_ ?_)
      | (with_reducible refine LeO.bind ?_ (fun _ => ?_))
      | exact ih0 _ _ _
      | exact LeO.none _
      | refine LeO.ite ?_ ?_
      | refine LeO.bind ?_ (fun _ => ?_)
theorem spliceref01_Power.mono : ∀ a0 k, LeO (spliceref01_Power.f k a0) (spliceref01_Power.f (k + 1) a0) := by
  intro a0 k
  have ih0 := spliceref01_Power.mono_l k
  unfold spliceref01_Power.f
  repeat' first
      | (with_reducible exact ih0 _ _ _)
      | (with_reducible exact LeO.refl _)
      | (with_reducible exact LeO.none _)
      | (with_reducible refine LeO.ite ?_ ?_)
      | (with_reducible refine LeO.bind ?_ (fun _ => ?_))
      | exact ih0 _ _ _
      | exact LeO.none _
      | refine LeO.ite ?_ ?_
      | refine LeO.bind ?_ (fun _ => ?_)
/-! ### spliceref01_Cut: function 30 -/
def spliceref01_Cut.j0 : Nat → Int → Int → Bool → Option (Int)
  | 0, _, _, _ => none
  | k + 1, x0, x1, x10 => if x10 = true then (some 0) else ((spliceref01_Power.f k x1).bind fun t164 => ((spliceref01_Mod.f x0 t164).bind fun t165 => (some ((t165) % 4294967296))))
def spliceref01_Cut.f (k : Nat) (a0 : Int) (a1 : Int) : Option (Int) := if a1 < 1 then (spliceref01_Cut.j0 k a0 a1 true) else (spliceref01_Cut.j0 k a0 a1 (decide (a1 > 32)))
theorem spliceref01_Cut.mono_l : ∀ k, (∀ y0 y1 y2, LeO (spliceref01_Cut.j0 k y0 y1 y2) (spliceref01_Cut.j0 (k + 1) y0 y1 y2))
  | 0 => fun _ _ _ r h => by simp [spliceref01_Cut.j0] at h
  | k + 1 => by
    have ih0 := spliceref01_Cut.mono_l k
    · intro y0 y1 y2
      unfold spliceref01_Cut.j0
      repeat' first
      | (with_reducible exact ih0 _ _ _)
      | (with_reducible exact spliceref01_Power.mono _ _)
      | (with_reducible exact LeO.refl _)
      | (with_reducible exact LeO.none _)
      | (with_reducible refine LeO.ite ?_ ?_)
      | (with_reducible refine LeO.bind ?_ (fun _ => ?_))
      | exact ih0 _ _ _
      | exact spliceref01_Power.mono _ _
      | exact LeO.none _
      | refine LeO.ite ?_ ?_
      | refine LeO.bind ?_ (fun _ => ?_)
theorem spliceref01_Cut.mono : ∀ a0 a1 k, LeO (spliceref01_Cut.f k a0 a1) (spliceref01_Cut.f (k + 1) a0 a1) := by
  intro a0 a1 k
  have ih0 := spliceref01_Cut.mono_l k
  unfold spliceref01_Cut.f
  repeat' first
      | (with_reducible exact ih0 _ _ _)
      | (with_reducible exact spliceref01_Power.mono _ _)
      | (with_reducible exact LeO.refl _)
      | (with_reducible exact LeO.none _)
      | (with_reducible refine LeO.ite ?_ ?_)
      | (with_reducible refine LeO.bind ?_ (fun _ => ?_))
      | exact ih0 _ _ _
      | exact spliceref01_Power.mono _ _
      | exact LeO.none _
      | refine LeO.ite ?_ ?_
      | refine LeO.bind ?_ (fun _ => ?_)
/-! ### spliceref02_Put: function 13 -/
def spliceref02_Put.j0 : Nat → Int → Int → Int → Int → Int → Int → Option (Int)
  | 0, _, _, _, _, _, _ => none
  | k + 1, x3, x167000, x167001, x167002, x167003, x167004 => (spliceref02_far.f x167000).bind fun t168 => (if t168 = true then ((spliceref01_Cut.f k x167004 24).bind fun t169 => (some ((((wrap64 ((wrap64 ((wrap64 ((wrap64 (x167000 * 16777216)) + (wrap64 (x167001 * 1048576)))) + (wrap64 (x167002 * 65536)))) + x167003)) % 4294967296) + t169) % 4294967296))) else ((spliceref01_Cut.f k x167004 x3).bind fun t170 => (some ((((wrap64 ((wrap64 ((wrap64 ((wrap64 (x167000 * 16777216)) + (wrap64 (x167001 * 1048576)))) + (wrap64 (x167002 * 65536)))) + x167003)) % 4294967296) + t170) % 4294967296))))
def spliceref02_Put.f (k : Nat) (a0_0 : Int) (a0_1 : Int) (a0_2 : Int) (a0_3 : Int) (a0_4 : Int) : Option (Int) := (spliceref02_branch.f a0_0).bind fun t167 => (if t167 = true then (spliceref02_Put.j0 k 8 a0_0 a0_1 a0_2 a0_3 a0_4) else (spliceref02_Put.j0 k 16 a0_0 a0_1 a0_2 a0_3 a0_4))
theorem spliceref02_Put.mono_l : ∀ k, (∀ y0 y1 y2 y3 y4 y5, LeO (spliceref02_Put.j0 k y0 y1 y2 y3 y4 y5) (spliceref02_Put.j0 (k + 1) y0 y1 y2 y3 y4 y5))
  | 0 => fun _ _ _ _ _ _ r h => by simp [spliceref02_Put.j0] at h
  | k + 1 => by
    have ih0 := spliceref02_Put.mono_l k
    · intro y0 y1 y2 y3 y4 y5
      unfold spliceref02_Put.j0
      repeat' first
      | (with_reducible exact ih0 _ _ _ _ _ _)
      | (with_reducible exact spliceref01_Cut.mono _ _ _)
      | (with_reducible exact LeO.refl _)
      | (with_reducible exact LeO.none _)
      | (with_reducible refine LeO.ite ?_ ?_)
      | (with_reducible refine LeO.bind ?_ (fun _ => ?_))
      | exact ih0 _ _ _ _ _ _
      | exact spliceref01_Cut.mono _ _ _
      | exact LeO.none _
      | refine LeO.ite ?_ ?_
      | refine LeO.bind ?_ (fun _ => ?_)
theorem spliceref02_Put.mono : ∀ a0 a1 a2 a3 a4 k, LeO (spliceref02_Put.f k a0 a1 a2 a3 a4) (spliceref02_Put.f (k + 1) a0 a1 a2 a3 a4) := by
  intro a0 a1 a2 a3 a4 k
  have ih0 := spliceref02_Put.mono_l k
  unfold spliceref02_Put.f
  repeat' first
      | (with_reducible exact ih0 _ _ _ _ _ _)
      | (with_reducible exact spliceref01_Cut.mono _ _ _)
      | (with_reducible exact LeO.refl _)
      | (with_reducible exact LeO.none _)
      | (with_reducible refine LeO.ite ?_ ?_)
      | (with_reducible refine LeO.bind ?_ (fun _ => ?_))
      | exact ih0 _ _ _ _ _ _
      | exact spliceref01_Cut.mono _ _ _
      | exact LeO.none _
      | refine LeO.ite ?_ ?_
      | refine LeO.bind ?_ (fun _ => ?_)
/-! ### splicelaw02_CodePuts: function 3 -/
def splicelaw02_CodePuts.j0 : Nat → Int → Int → Bool → Int → Int → Int → Int → Int → Option (Bool)
  | 0, _, _, _, _, _, _, _, _ => none
  | k + 1, x3, x4, x18, x172000, x172001, x172002, x172003, x172004 => if x18 = true then (none) else ((spliceref02_Right.f x172000 x172001 x172002 x172003 x172004).bind fun t177 => (if t177 = true then (if x4 = 0 then ((spliceref02_Put.f k x172000 x172001 x172002 x172003 x172004).bind fun t178 => (some (x3 == t178))) else (none)) else (if x4 = 3 then (some (x3 == 0)) else (none))))
def splicelaw02_CodePuts.f (k : Nat) (a0_0 : Int) (a0_1 : Int) (a0_2 : Int) (a0_3 : Int) (a0_4 : Int) : Option (Bool) := (code_Put.f k a0_0 a0_1 a0_2 a0_3 a0_4).bind fun bt172 => ((splicelaw02_awake.f k).bind fun t174 => (if t174 = true then ((code_Right.f k a0_0 a0_1 a0_2 a0_3 a0_4).bind fun t175 => ((spliceref02_Right.f a0_0 a0_1 a0_2 a0_3 a0_4).bind fun t176 => (splicelaw02_CodePuts.j0 k bt172.1 bt172.2 (t175 != t176) a0_0 a0_1 a0_2 a0_3 a0_4))) else (splicelaw02_CodePuts.j0 k bt172.1 bt172.2 true a0_0 a0_1 a0_2 a0_3 a0_4)))
theorem splicelaw02_CodePuts.mono_l : ∀ k, (∀ y0 y1 y2 y3 y4 y5 y6 y7, LeO (splicelaw02_CodePuts.j0 k y0 y1 y2 y3 y4 y5 y6 y7) (splicelaw02_CodePuts.j0 (k + 1) y0 y1 y2 y3 y4 y5 y6 y7))
  | 0 => fun _ _ _ _ _ _ _ _ r h => by simp [splicelaw02_CodePuts.j0] at h
  | k + 1 => by
    have ih0 := splicelaw02_CodePuts.mono_l k
    · intro y0 y1 y2 y3 y4 y5 y6 y7
      unfold splicelaw02_CodePuts.j0
      repeat' first
      | (with_reducible exact ih0 _ _ _ _ _ _ _ _)
      | (with_reducible exact code_Put.mono _ _ _ _ _ _)
      | (with_reducible exact code_Right.mono _ _ _ _ _ _)
      | (with_reducible exact splicelaw02_awake.mono _)
      | (with_reducible exact spliceref02_Put.mono _ _ _ _ _ _)
      | (with_reducible exact LeO.refl _)
      | (with_reducible exact LeO.none _)
      | (with_reducible refine LeO.ite ?_ ?_)
      | (with_reducible refine LeO.bind ?_ (fun _ => ?_))
      | exact ih0 _ _ _ _ _ _ _ _
      | exact code_Put.mono _ _ _ _ _ _
      | exact code_Right.mono _ _ _ _ _ _
      | exact splicelaw02_awake.mono _
      | exact spliceref02_Put.mono _ _ _ _ _ _
      | exact LeO.none _
      | refine LeO.ite ?_ ?_
      | refine LeO.bind ?_ (fun _ => ?_)
theorem splicelaw02_CodePuts.mono : ∀ a0 a1 a2 a3 a4 k, LeO (splicelaw02_CodePuts.f k a0 a1 a2 a3 a4) (splicelaw02_CodePuts.f (k + 1) a0 a1 a2 a3 a4) := by
  intro a0 a1 a2 a3 a4 k
  have ih0 := splicelaw02_CodePuts.mono_l k
  unfold splicelaw02_CodePuts.f
  repeat' first
      | (with_reducible exact ih0 _ _ _ _ _ _ _ _)
      | (with_reducible exact code_Put.mono _ _ _ _ _ _)
      | (with_reducible exact code_Right.mono _ _ _ _ _ _)
      | (with_reducible exact splicelaw02_awake.mono _)
      | (with_reducible exact spliceref02_Put.mono _ _ _ _ _ _)
      | (with_reducible exact LeO.refl _)
      | (with_reducible exact LeO.none _)
      | (with_reducible refine LeO.ite ?_ ?_)
      | (with_reducible refine LeO.bind ?_ (fun _ => ?_))
      | exact ih0 _ _ _ _ _ _ _ _
      | exact code_Put.mono _ _ _ _ _ _
      | exact code_Right.mono _ _ _ _ _ _
      | exact splicelaw02_awake.mono _
      | exact spliceref02_Put.mono _ _ _ _ _ _
      | exact LeO.none _
      | refine LeO.ite ?_ ?_
      | refine LeO.bind ?_ (fun _ => ?_)
def splicelaw02_CodePuts.Pure : Prop := ∀ (x0 : S23), (W23 x0) → ∃ k, splicelaw02_CodePuts.f k x0.f0 x0.f1 x0.f2 x0.f3 x0.f4 = some true
/-! ### spliceref01_Sign: function 32 -/
def spliceref01_Sign.j0 : Nat → Int → Int → Bool → Option (Int)
  | 0, _, _, _ => none
  | k + 1, x0, x1, x11 => if x11 = true then (some 0) else ((spliceref01_Power.f k x1).bind fun t179 => (if t179 = 0 then (none) else ((spliceref01_Power.f k x1).bind fun t180 => (if (Int.tmod (wrap64 (x0)) t179) ≥ (wrap64 (Int.tdiv t180 2)) then ((spliceref01_Power.f k x1).bind fun t181 => (some (wrap64 ((Int.tmod (wrap64 (x0)) t179) - t181)))) else (some (Int.tmod (wrap64 (x0)) t179))))))
def spliceref01_Sign.f (k : Nat) (a0 : Int) (a1 : Int) : Option (Int) := if a1 < 1 then (spliceref01_Sign.j0 k a0 a1 true) else (spliceref01_Sign.j0 k a0 a1 (decide (a1 > 32)))
theorem spliceref01_Sign.mono_l : ∀ k, (∀ y0 y1 y2, LeO (spliceref01_Sign.j0 k y0 y1 y2) (spliceref01_Sign.j0 (k + 1) y0 y1 y2))
  | 0 => fun _ _ _ r h => by simp [spliceref01_Sign.j0] at h
  | k + 1 => by
    have ih0 := spliceref01_Sign.mono_l k
    · intro y0 y1 y2
      unfold spliceref01_Sign.j0
      repeat' first
      | (with_reducible exact ih0 _ _ _)
      | (with_reducible exact spliceref01_Power.mono _ _)
      | (with_reducible exact LeO.refl _)
      | (with_reducible exact LeO.none _)
      | (with_reducible refine LeO.ite ?_ ?_)
      | (with_reducible refine LeO.bind ?_ (fun _ => ?_))
      | exact ih0 _ _ _
      | exact spliceref01_Power.mono _ _
      | exact LeO.none _
      | refine LeO.ite ?_ ?_
      | refine LeO.bind ?_ (fun _ => ?_)
theorem spliceref01_Sign.mono : ∀ a0 a1 k, LeO (spliceref01_Sign.f k a0 a1) (spliceref01_Sign.f (k + 1) a0 a1) := by
  intro a0 a1 k
  have ih0 := spliceref01_Sign.mono_l k
  unfold spliceref01_Sign.f
  repeat' first
      | (with_reducible exact ih0 _ _ _)
      | (with_reducible exact spliceref01_Power.mono _ _)
      | (with_reducible exact LeO.refl _)
      | (with_reducible exact LeO.none _)
      | (with_reducible refine LeO.ite ?_ ?_)
      | (with_reducible refine LeO.bind ?_ (fun _ => ?_))
      | exact ih0 _ _ _
      | exact spliceref01_Power.mono _ _
      | exact LeO.none _
      | refine LeO.ite ?_ ?_
      | refine LeO.bind ?_ (fun _ => ?_)
/-! ### splicelaw02_CodeGets: function 4 -/
def splicelaw02_CodeGets.f (k : Nat) (a0 : Int) : Option (Bool) := (code_Get.f k a0).bind fun bt182 => ((spliceref02_Get.f a0).bind fun bt189 => ((splicelaw02_awake.f k).bind fun t196 => (if t196 = true then (if (bt182.1 == bt189.1 && (bt182.2.1 == bt189.2.1 && (bt182.2.2.1 == bt189.2.2.1 && (bt182.2.2.2.1 == bt189.2.2.2.1 && (bt182.2.2.2.2.1 == bt189.2.2.2.2.1))))) = true then (if (bt189.2.2.2.2.2 == (bt182.2.2.2.2.2 == 0)) = true then (if bt189.2.2.2.2.2 = true then (some true) else (some (bt182.2.2.2.2.2 == 3))) else (none)) else (none)) else (none))))
theorem splicelaw02_CodeGets.mono : ∀ a0 k, LeO (splicelaw02_CodeGets.f k a0) (splicelaw02_CodeGets.f (k + 1) a0) := by
  intro a0 k
  unfold splicelaw02_CodeGets.f
  repeat' first
      | (with_reducible exact code_Get.mono _ _)
      | (with_reducible exact splicelaw02_awake.mono _)
      | (with_reducible exact LeO.refl _)
      | (with_reducible exact LeO.none _)
      | (with_reducible refine LeO.ite ?_ ?_)
      | (with_reducible refine LeO.bind ?_ (fun _ => ?_))
      | exact code_Get.mono _ _
      | exact splicelaw02_awake.mono _
      | exact LeO.none _
      | refine LeO.ite ?_ ?_
      | refine LeO.bind ?_ (fun _ => ?_)
def splicelaw02_CodeGets.Pure : Prop := ∀ (x0 : Int), (U32 x0) → ∃ k, splicelaw02_CodeGets.f k x0 = some true
/-! ### splicelaw02_CodeBack: function 5 -/
def splicelaw02_CodeBack.j0 : Nat → Int → Option (Bool)
  | 0, _ => none
  | k + 1, x1 => (code_Get.f k x1).bind fun bt208 => (if bt208.2.2.2.2.2 = 0 then ((code_Put.f k bt208.1 bt208.2.1 bt208.2.2.1 bt208.2.2.2.1 bt208.2.2.2.2.1).bind fun bt215 => (if bt215.2 = 0 then (if bt215.1 = x1 then ((code_Right.f k bt208.1 bt208.2.1 bt208.2.2.1 bt208.2.2.2.1 bt208.2.2.2.2.1).bind fun t217 => (some t217)) else (none)) else (none))) else (some (bt208.1 == 0 && (bt208.2.1 == 0 && (bt208.2.2.1 == 0 && (bt208.2.2.2.1 == 0 && (bt208.2.2.2.2.1 == 0)))))))
def splicelaw02_CodeBack.f (k : Nat) (a0_0 : Int) (a0_1 : Int) (a0_2 : Int) (a0_3 : Int) (a0_4 : Int) (a1 : Int) : Option (Bool) := (code_Put.f k a0_0 a0_1 a0_2 a0_3 a0_4).bind fun bt198 => ((splicelaw02_awake.f k).bind fun t200 => (if t200 = true then (if bt198.2 = 0 then ((code_Get.f k bt198.1).bind fun bt201 => (if bt201.2.2.2.2.2 = 0 then (if (!(bt201.1 == a0_0) || (!(bt201.2.1 == a0_1) || (!(bt201.2.2.1 == a0_2) || (!(bt201.2.2.2.1 == a0_3) || (!(bt201.2.2.2.2.1 == a0_4)))))) = true then (none) else (if (wrap64 (bt198.1 / 16777216)) = a0_0 then (splicelaw02_CodeBack.j0 k a1) else (none))) else (none))) else (splicelaw02_CodeBack.j0 k a1)) else (none)))
theorem splicelaw02_CodeBack.mono_l : ∀ k, (∀ y0, LeO (splicelaw02_CodeBack.j0 k y0) (splicelaw02_CodeBack.j0 (k + 1) y0))
  | 0 => fun _ r h => by simp [splicelaw02_CodeBack.j0] at h
  | k + 1 => by
    have ih0 := splicelaw02_CodeBack.mono_l k
    · intro y0
      unfold splicelaw02_CodeBack.j0
      repeat' first
      | (with_reducible exact ih0 _)
      | (with_reducible exact code_Get.mono _ _)
      | (with_reducible exact code_Put.mono _ _ _ _ _ _)
      | (with_reducible exact code_Right.mono _ _ _ _ _ _)
      | (with_reducible exact splicelaw02_awake.mono _)
      | (with_reducible exact LeO.refl _)
      | (with_reducible exact LeO.none _)
      | (with_reducible refine LeO.ite ?_ ?_)
      | (with_reducible refine LeO.bind ?_ (fun _ => ?_))
      | exact ih0 _
      | exact code_Get.mono _ _
      | exact code_Put.mono _ _ _ _ _ _
      | exact code_Right.mono _ _ _ _ _ _
      | exact splicelaw02_awake.mono _
      | exact LeO.none _
      | refine LeO.ite ?_ ?_
      | refine LeO.bind ?_ (fun _ => ?_)
theorem splicelaw02_CodeBack.mono : ∀ a0 a1 a2 a3 a4 a5 k, LeO (splicelaw02_CodeBack.f k a0 a1 a2 a3 a4 a5) (splicelaw02_CodeBack.f (k + 1) a0 a1 a2 a3 a4 a5) := by
  intro a0 a1 a2 a3 a4 a5 k
  have ih0 := splicelaw02_CodeBack.mono_l k
  unfold splicelaw02_CodeBack.f
  repeat' first
      | (with_reducible exact ih0 _)
      | (with_reducible exact code_Get.mono _ _)
      | (with_reducible exact code_Put.mono _ _ _ _ _ _)
      | (with_reducible exact code_Right.mono _ _ _ _ _ _)
      | (with_reducible exact splicelaw02_awake.mono _)
      | (with_reducible exact LeO.refl _)
      | (with_reducible exact LeO.none _)
      | (with_reducible refine LeO.ite ?_ ?_)
      | (with_reducible refine LeO.bind ?_ (fun _ => ?_))
      | exact ih0 _
      | exact code_Get.mono _ _
      | exact code_Put.mono _ _ _ _ _ _
      | exact code_Right.mono _ _ _ _ _ _
      | exact splicelaw02_awake.mono _
      | exact LeO.none _
      | refine LeO.ite ?_ ?_
      | refine LeO.bind ?_ (fun _ => ?_)
def splicelaw02_CodeBack.Pure : Prop := ∀ (x0 : S23) (x1 : Int), (W23 x0) → (U32 x1) → ∃ k, splicelaw02_CodeBack.f k x0.f0 x0.f1 x0.f2 x0.f3 x0.f4 x1 = some true
/-! ### splicelaw02_CodeApart: function 6 -/
def splicelaw02_CodeApart.f (k : Nat) (a0_0 : Int) (a0_1 : Int) (a0_2 : Int) (a0_3 : Int) (a0_4 : Int) (a1_0 : Int) (a1_1 : Int) (a1_2 : Int) (a1_3 : Int) (a1_4 : Int) : Option (Bool) := (code_Put.f k a0_0 a0_1 a0_2 a0_3 a0_4).bind fun bt220 => ((code_Put.f k a1_0 a1_1 a1_2 a1_3 a1_4).bind fun bt222 => ((splicelaw02_awake.f k).bind fun t224 => (if t224 = true then (if bt220.2 = 0 then (if bt222.2 = 0 then (some ((bt220.1 == bt222.1) == (a0_0 == a1_0 && (a0_1 == a1_1 && (a0_2 == a1_2 && (a0_3 == a1_3 && (a0_4 == a1_4))))))) else ((splicelaw02_awake.f k).bind fun t225 => (some t225))) else ((splicelaw02_awake.f k).bind fun t226 => (some t226))) else ((splicelaw02_awake.f k).bind fun t227 => (some t227)))))
theorem splicelaw02_CodeApart.mono : ∀ a0 a1 a2 a3 a4 a5 a6 a7 a8 a9 k, LeO (splicelaw02_CodeApart.f k a0 a1 a2 a3 a4 a5 a6 a7 a8 a9) (splicelaw02_CodeApart.f (k + 1) a0 a1 a2 a3 a4 a5 a6 a7 a8 a9) := by
  intro a0 a1 a2 a3 a4 a5 a6 a7 a8 a9 k
  unfold splicelaw02_CodeApart.f
  repeat' first
      | (with_reducible exact code_Put.mono _ _ _ _ _ _)
      | (with_reducible exact splicelaw02_awake.mono _)
      | (with_reducible exact LeO.refl _)
      | (with_reducible exact LeO.none _)
      | (with_reducible refine LeO.ite ?_ ?_)
      | (with_reducible refine LeO.bind ?_ (fun _ => ?_))
      | exact code_Put.mono _ _ _ _ _ _
      | exact splicelaw02_awake.mono _
      | exact LeO.none _
      | refine LeO.ite ?_ ?_
      | refine LeO.bind ?_ (fun _ => ?_)
def splicelaw02_CodeApart.Pure : Prop := ∀ (x0 : S23) (x1 : S23), (W23 x0) → (W23 x1) → ∃ k, splicelaw02_CodeApart.f k x0.f0 x0.f1 x0.f2 x0.f3 x0.f4 x1.f0 x1.f1 x1.f2 x1.f3 x1.f4 = some true
/-! ### code_All: function 16 -/
def code_All.l0 : Nat → List (S23) → List Int → Int → Int → Option ((List (S23)) × Int)
  | 0, _, _, _, _ => none
  | k + 1, x4, x9, x10, x11 => if x11 < x10 then (if 0 ≤ x11 then (if x11 < (x9.length : Int) then ((code_Get.f k (rd x9 x11)).bind fun bt229 => (if bt229.2.2.2.2.2 = 0 then (if x4.length < 3518437208883 then (code_All.l0 k (x4 ++ [(⟨bt229.1, bt229.2.1, bt229.2.2.1, bt229.2.2.2.1, bt229.2.2.2.2.1⟩ : S23)]) x9 x10 (wrap64 (x11 + 1))) else (none)) else (some (([] : List (S23)), x11)))) else (none)) else (none)) else (some (x4, (-1)))
def code_All.f (k : Nat) (l0 : List Int) : Option ((List (S23)) × Int) := code_All.l0 k ([] : List (S23)) l0 (l0.length : Int) 0
theorem code_All.mono_l : ∀ k, (∀ y0 y1 y2 y3, LeO (code_All.l0 k y0 y1 y2 y3) (code_All.l0 (k + 1) y0 y1 y2 y3))
  | 0 => fun _ _ _ _ r h => by simp [code_All.l0] at h
  | k + 1 => by
    have ih0 := code_All.mono_l k
    · intro y0 y1 y2 y3
      unfold code_All.l0
      repeat' first
      | (with_reducible exact ih0 _ _ _ _)
      | (with_reducible exact code_Get.mono _ _)
      | (with_reducible exact LeO.refl _)
      | (with_reducible exact LeO.none _)
      | (with_reducible refine LeO.ite ?_ ?_)
      | (with_reducible refine LeO.bind ?_ (fun _ => ?_))
      | exact ih0 _ _ _ _
      | exact code_Get.mono _ _
      | exact LeO.none _
      | refine LeO.ite ?_ ?_
      | refine LeO.bind ?_ (fun _ => ?_)
theorem code_All.mono : ∀ a0 k, LeO (code_All.f k a0) (code_All.f (k + 1) a0) := by
  intro a0 k
  have ih0 := code_All.mono_l k
  unfold code_All.f
  repeat' first
      | (with_reducible exact ih0 _ _ _ _)
      | (with_reducible exact code_Get.mono _ _)
      | (with_reducible exact LeO.refl _)
      | (with_reducible exact LeO.none _)
      | (with_reducible refine LeO.ite ?_ ?_)
      | (with_reducible refine LeO.bind ?_ (fun _ => ?_))
      | exact ih0 _ _ _ _
      | exact code_Get.mono _ _
      | exact LeO.none _
      | refine LeO.ite ?_ ?_
      | refine LeO.bind ?_ (fun _ => ?_)
/-! ### spliceref02_All: function 17 -/
def spliceref02_All.l0 : Nat → List Int → List (S23) → Int → Option ((List (S23)) × Int)
  | 0, _, _, _ => none
  | k + 1, x0, x4, x5 => if x5 < (x0.length : Int) then (if 0 ≤ x5 then ((spliceref02_Get.f (rd x0 x5)).bind fun bt240 => (if bt240.2.2.2.2.2 = true then (if x4.length < 3518437208883 then (spliceref02_All.l0 k x0 (x4 ++ [(⟨bt240.1, bt240.2.1, bt240.2.2.1, bt240.2.2.2.1, bt240.2.2.2.2.1⟩ : S23)]) (wrap64 (x5 + 1))) else (none)) else (some (([] : List (S23)), x5)))) else (none)) else (some (x4, (-1)))
def spliceref02_All.f (k : Nat) (l0 : List Int) : Option ((List (S23)) × Int) := spliceref02_All.l0 k l0 ([] : List (S23)) 0
theorem spliceref02_All.mono_l : ∀ k, (∀ y0 y1 y2, LeO (spliceref02_All.l0 k y0 y1 y2) (spliceref02_All.l0 (k + 1) y0 y1 y2))
  | 0 => fun _ _ _ r h => by simp [spliceref02_All.l0] at h
  | k + 1 => by
    have ih0 := spliceref02_All.mono_l k
    · intro y0 y1 y2
      unfold spliceref02_All.l0
      repeat' first
      | (with_reducible exact ih0 _ _ _)
      | (with_reducible exact LeO.refl _)
      | (with_reducible exact LeO.none _)
      | (with_reducible refine LeO.ite ?_ ?_)
      | (with_reducible refine LeO.bind ?_ (fun _ => ?_))
      | exact ih0 _ _ _
      | exact LeO.none _
      | refine LeO.ite ?_ ?_
      | refine LeO.bind ?_ (fun _ => ?_)
theorem spliceref02_All.mono : ∀ a0 k, LeO (spliceref02_All.f k a0) (spliceref02_All.f (k + 1) a0) := by
  intro a0 k
  have ih0 := spliceref02_All.mono_l k
  unfold spliceref02_All.f
  repeat' first
      | (with_reducible exact ih0 _ _ _)
      | (with_reducible exact LeO.refl _)
      | (with_reducible exact LeO.none _)
      | (with_reducible refine LeO.ite ?_ ?_)
      | (with_reducible refine LeO.bind ?_ (fun _ => ?_))
      | exact ih0 _ _ _
      | exact LeO.none _
      | refine LeO.ite ?_ ?_
      | refine LeO.bind ?_ (fun _ => ?_)
/-! ### spliceref02_Same: function 18 -/
def spliceref02_Same.l0 : Nat → List (S23) → List (S23) → Int → Option (Bool)
  | 0, _, _, _ => none
  | k + 1, x0, x1, x5 => if x5 < (x0.length : Int) then (if 0 ≤ x5 then (if x5 < (x1.length : Int) then (if (!(((rd_T23 x0 x5).f0) == ((rd_T23 x1 x5).f0)) || (!(((rd_T23 x0 x5).f1) == ((rd_T23 x1 x5).f1)) || (!(((rd_T23 x0 x5).f2) == ((rd_T23 x1 x5).f2)) || (!(((rd_T23 x0 x5).f3) == ((rd_T23 x1 x5).f3)) || (!(((rd_T23 x0 x5).f4) == ((rd_T23 x1 x5).f4))))))) = true then (some false) else (spliceref02_Same.l0 k x0 x1 (wrap64 (x5 + 1)))) else (none)) else (none)) else (some true)
def spliceref02_Same.f (k : Nat) (l0 : List (S23)) (l1 : List (S23)) : Option (Bool) := if (l0.length : Int) = (l1.length : Int) then (spliceref02_Same.l0 k l0 l1 0) else (some false)
theorem spliceref02_Same.mono_l : ∀ k, (∀ y0 y1 y2, LeO (spliceref02_Same.l0 k y0 y1 y2) (spliceref02_Same.l0 (k + 1) y0 y1 y2))
  | 0 => fun _ _ _ r h => by simp [spliceref02_Same.l0] at h
  | k + 1 => by
    have ih0 := spliceref02_Same.mono_l k
    · intro y0 y1 y2
      unfold spliceref02_Same.l0
      repeat' first
      | (with_reducible exact ih0 _ _ _)
      | (with_reducible exact LeO.refl _)
      | (with_reducible exact LeO.none _)
      | (with_reducible refine LeO.ite ?_ ?_)
      | (with_reducible refine LeO.bind ?_ (fun _ => ?_))
      | exact ih0 _ _ _
      | exact LeO.none _
      | refine LeO.ite ?_ ?_
      | refine LeO.bind ?_ (fun _ => ?_)
theorem spliceref02_Same.mono : ∀ a0 a1 k, LeO (spliceref02_Same.f k a0 a1) (spliceref02_Same.f (k + 1) a0 a1) := by
  intro a0 a1 k
  have ih0 := spliceref02_Same.mono_l k
  unfold spliceref02_Same.f
  repeat' first
      | (with_reducible exact ih0 _ _ _)
      | (with_reducible exact LeO.refl _)
      | (with_reducible exact LeO.none _)
      | (with_reducible refine LeO.ite ?_ ?_)
      | (with_reducible refine LeO.bind ?_ (fun _ => ?_))
      | exact ih0 _ _ _
      | exact LeO.none _
      | refine LeO.ite ?_ ?_
      | refine LeO.bind ?_ (fun _ => ?_)
/-! ### splicelaw02_CodeAlls: function 7 -/
def splicelaw02_CodeAlls.j0 : Nat → List Int → Bool → Option (Bool)
  | 0, _, _ => none
  | k + 1, x0, x13 => if x13 = true then ((splicelaw02_awake.f k).bind fun t253 => (some t253)) else ((code_All.f k x0).bind fun bt254 => ((spliceref02_All.f k x0).bind fun bt258 => (if bt254.2 = bt258.2 then ((spliceref02_Same.f k bt254.1 bt258.1).bind fun t262 => (some t262)) else (none))))
def splicelaw02_CodeAlls.f (k : Nat) (l0 : List Int) : Option (Bool) := (splicelaw02_awake.f k).bind fun t252 => (if t252 = true then (splicelaw02_CodeAlls.j0 k l0 (decide ((l0.length : Int) > 300))) else (splicelaw02_CodeAlls.j0 k l0 true))
theorem splicelaw02_CodeAlls.mono_l : ∀ k, (∀ y0 y1, LeO (splicelaw02_CodeAlls.j0 k y0 y1) (splicelaw02_CodeAlls.j0 (k + 1) y0 y1))
  | 0 => fun _ _ r h => by simp [splicelaw02_CodeAlls.j0] at h
  | k + 1 => by
    have ih0 := splicelaw02_CodeAlls.mono_l k
    · intro y0 y1
      unfold splicelaw02_CodeAlls.j0
      repeat' first
      | (with_reducible exact ih0 _ _)
      | (with_reducible exact code_All.mono _ _)
      | (with_reducible exact splicelaw02_awake.mono _)
      | (with_reducible exact spliceref02_All.mono _ _)
      | (with_reducible exact spliceref02_Same.mono _ _ _)
      | (with_reducible exact LeO.refl _)
      | (with_reducible exact LeO.none _)
      | (with_reducible refine LeO.ite ?_ ?_)
      | (with_reducible refine LeO.bind ?_ (fun _ => ?_))
      | exact ih0 _ _
      | exact code_All.mono _ _
      | exact splicelaw02_awake.mono _
      | exact spliceref02_All.mono _ _
      | exact spliceref02_Same.mono _ _ _
      | exact LeO.none _
      | refine LeO.ite ?_ ?_
      | refine LeO.bind ?_ (fun _ => ?_)
theorem splicelaw02_CodeAlls.mono : ∀ a0 k, LeO (splicelaw02_CodeAlls.f k a0) (splicelaw02_CodeAlls.f (k + 1) a0) := by
  intro a0 k
  have ih0 := splicelaw02_CodeAlls.mono_l k
  unfold splicelaw02_CodeAlls.f
  repeat' first
      | (with_reducible exact ih0 _ _)
      | (with_reducible exact code_All.mono _ _)
      | (with_reducible exact splicelaw02_awake.mono _)
      | (with_reducible exact spliceref02_All.mono _ _)
      | (with_reducible exact spliceref02_Same.mono _ _ _)
      | (with_reducible exact LeO.refl _)
      | (with_reducible exact LeO.none _)
      | (with_reducible refine LeO.ite ?_ ?_)
      | (with_reducible refine LeO.bind ?_ (fun _ => ?_))
      | exact ih0 _ _
      | exact code_All.mono _ _
      | exact splicelaw02_awake.mono _
      | exact spliceref02_All.mono _ _
      | exact spliceref02_Same.mono _ _ _
      | exact LeO.none _
      | refine LeO.ite ?_ ?_
      | refine LeO.bind ?_ (fun _ => ?_)
def splicelaw02_CodeAlls.Pure : Prop := ∀ (x0 : List Int), (x0.length * 4 ≤ 140737488351232 ∧ ∀ x_ ∈ x0, U32 x_) → ∃ k, splicelaw02_CodeAlls.f k x0 = some true
/-! ### spliceref01_Words: function 19 -/
def spliceref01_Words.l0 : Nat → List Int → List Int → Int → Option (Bool)
  | 0, _, _, _ => none
  | k + 1, x0, x1, x5 => if x5 < (x0.length : Int) then (if 0 ≤ x5 then (if x5 < (x1.length : Int) then (if (rd x0 x5) = (rd x1 x5) then (spliceref01_Words.l0 k x0 x1 (wrap64 (x5 + 1))) else (some false)) else (none)) else (none)) else (some true)
def spliceref01_Words.f (k : Nat) (l0 : List Int) (l1 : List Int) : Option (Bool) := if (l0.length : Int) = (l1.length : Int) then (spliceref01_Words.l0 k l0 l1 0) else (some false)
theorem spliceref01_Words.mono_l : ∀ k, (∀ y0 y1 y2, LeO (spliceref01_Words.l0 k y0 y1 y2) (spliceref01_Words.l0 (k + 1) y0 y1 y2))
  | 0 => fun _ _ _ r h => by simp [spliceref01_Words.l0] at h
  | k + 1 => by
    have ih0 := spliceref01_Words.mono_l k
    · intro y0 y1 y2
      unfold spliceref01_Words.l0
      repeat' first
      | (with_reducible exact ih0 _ _ _)
      | (with_reducible exact LeO.refl _)
      | (with_reducible exact LeO.none _)
      | (with_reducible refine LeO.ite ?_ ?_)
      | (with_reducible refine LeO.bind ?_ (fun _ => ?_))
      | exact ih0 _ _ _
      | exact LeO.none _
      | refine LeO.ite ?_ ?_
      | refine LeO.bind ?_ (fun _ => ?_)
theorem spliceref01_Words.mono : ∀ a0 a1 k, LeO (spliceref01_Words.f k a0 a1) (spliceref01_Words.f (k + 1) a0 a1) := by
  intro a0 a1 k
  have ih0 := spliceref01_Words.mono_l k
  unfold spliceref01_Words.f
  repeat' first
      | (with_reducible exact ih0 _ _ _)
      | (with_reducible exact LeO.refl _)
      | (with_reducible exact LeO.none _)
      | (with_reducible refine LeO.ite ?_ ?_)
      | (with_reducible refine LeO.bind ?_ (fun _ => ?_))
      | exact ih0 _ _ _
      | exact LeO.none _
      | refine LeO.ite ?_ ?_
      | refine LeO.bind ?_ (fun _ => ?_)
/-! ### splicelaw02_CodeKeeps: function 8 -/
mutual
def splicelaw02_CodeKeeps.j0 : Nat → List Int → Bool → Option (Bool)
  | 0, _, _ => none
  | k + 1, x0, x17 => if x17 = true then ((splicelaw02_awake.f k).bind fun t266 => (some t266)) else ((some (([] : List Int) : List Int)).bind fun y267 => (if y267.length + x0.length < 35184372088832 then ((code_All.f k x0).bind fun bt273 => (splicelaw02_CodeKeeps.l0 k x0 (y267 ++ x0) bt273.1 0)) else (none)))
def splicelaw02_CodeKeeps.l0 : Nat → List Int → List Int → List (S23) → Int → Option (Bool)
  | 0, _, _, _, _ => none
  | k + 1, x0, x3, x4, x6 => if x6 < (x4.length : Int) then (if 0 ≤ x6 then (splicelaw02_CodeKeeps.l0 k x0 x3 (x4.set (x6 : Int).toNat (⟨99, (rd_T23 x4 x6).f1, (rd_T23 x4 x6).f2, (rd_T23 x4 x6).f3, (rd_T23 x4 x6).f4⟩ : S23)) (wrap64 (x6 + 1))) else (none)) else ((code_All.f k x0).bind fun bt278 => ((spliceref02_All.f k x0).bind fun bt282 => ((spliceref01_Words.f k x0 x3).bind fun t286 => (if t286 = true then (if bt278.2 = bt282.2 then ((spliceref02_Same.f k bt278.1 bt282.1).bind fun t287 => (some t287)) else (none)) else (none)))))
end
def splicelaw02_CodeKeeps.f (k : Nat) (l0 : List Int) : Option (Bool) := (splicelaw02_awake.f k).bind fun t265 => (if t265 = true then (splicelaw02_CodeKeeps.j0 k l0 (decide ((l0.length : Int) > 300))) else (splicelaw02_CodeKeeps.j0 k l0 true))
theorem splicelaw02_CodeKeeps.mono_l : ∀ k, (∀ y0 y1, LeO (splicelaw02_CodeKeeps.j0 k y0 y1) (splicelaw02_CodeKeeps.j0 (k + 1) y0 y1)) ∧ (∀ y0 y1 y2 y3, LeO (splicelaw02_CodeKeeps.l0 k y0 y1 y2 y3) (splicelaw02_CodeKeeps.l0 (k + 1) y0 y1 y2 y3))
  | 0 => ⟨fun _ _ r h => by simp [splicelaw02_CodeKeeps.j0] at h, fun _ _ _ _ r h => by simp [splicelaw02_CodeKeeps.l0] at h⟩
  | k + 1 => by
    obtain ⟨ih0, ih1⟩ := splicelaw02_CodeKeeps.mono_l k
    refine ⟨?_, ?_⟩
    · intro y0 y1
      unfold splicelaw02_CodeKeeps.j0
      repeat' first
      | (with_reducible exact ih0 _ _)
      | (with_reducible exact ih1 _ _ _ _)
      | (with_reducible exact code_All.mono _ _)
      | (with_reducible exact splicelaw02_awake.mono _)
      | (with_reducible exact spliceref01_Words.mono _ _ _)
      | (with_reducible exact spliceref02_All.mono _ _)
      | (with_reducible exact spliceref02_Same.mono _ _ _)
      | (with_reducible exact LeO.refl _)
      | (with_reducible exact LeO.none _)
      | (with_reducible refine LeO.ite ?_ ?_)
      | (with_reducible refine LeO.bind ?_ (fun _ => ?_))
      | exact ih0 _ _
      | exact ih1 _ _ _ _
      | exact code_All.mono _ _
      | exact splicelaw02_awake.mono _
      | exact spliceref01_Words.mono _ _ _
      | exact spliceref02_All.mono _ _
      | exact spliceref02_Same.mono _ _ _
      | exact LeO.none _
      | refine LeO.ite ?_ ?_
      | refine LeO.bind ?_ (fun _ => ?_)
    · intro y0 y1 y2 y3
      unfold splicelaw02_CodeKeeps.l0
      repeat' first
      | (with_reducible exact ih0 _ _)
      | (with_reducible exact ih1 _ _ _ _)
      | (with_reducible exact code_All.mono _ _)
      | (with_reducible exact splicelaw02_awake.mono _)
      | (with_reducible exact spliceref01_Words.mono _ _ _)
      | (with_reducible exact spliceref02_All.mono _ _)
      | (with_reducible exact spliceref02_Same.mono _ _ _)
      | (with_reducible exact LeO.refl _)
      | (with_reducible exact LeO.none _)
      | (with_reducible refine LeO.ite ?_ ?_)
      | (with_reducible refine LeO.bind ?_ (fun _ => ?_))
      | exact ih0 _ _
      | exact ih1 _ _ _ _
      | exact code_All.mono _ _
      | exact splicelaw02_awake.mono _
      | exact spliceref01_Words.mono _ _ _
      | exact spliceref02_All.mono _ _
      | exact spliceref02_Same.mono _ _ _
      | exact LeO.none _
      | refine LeO.ite ?_ ?_
      | refine LeO.bind ?_ (fun _ => ?_)
theorem splicelaw02_CodeKeeps.mono : ∀ a0 k, LeO (splicelaw02_CodeKeeps.f k a0) (splicelaw02_CodeKeeps.f (k + 1) a0) := by
  intro a0 k
  obtain ⟨ih0, ih1⟩ := splicelaw02_CodeKeeps.mono_l k
  unfold splicelaw02_CodeKeeps.f
  repeat' first
      | (with_reducible exact ih0 _ _)
      | (with_reducible exact ih1 _ _ _ _)
      | (with_reducible exact code_All.mono _ _)
      | (with_reducible exact splicelaw02_awake.mono _)
      | (with_reducible exact spliceref01_Words.mono _ _ _)
      | (with_reducible exact spliceref02_All.mono _ _)
      | (with_reducible exact spliceref02_Same.mono _ _ _)
      | (with_reducible exact LeO.refl _)
      | (with_reducible exact LeO.none _)
      | (with_reducible refine LeO.ite ?_ ?_)
      | (with_reducible refine LeO.bind ?_ (fun _ => ?_))
      | exact ih0 _ _
      | exact ih1 _ _ _ _
      | exact code_All.mono _ _
      | exact splicelaw02_awake.mono _
      | exact spliceref01_Words.mono _ _ _
      | exact spliceref02_All.mono _ _
      | exact spliceref02_Same.mono _ _ _
      | exact LeO.none _
      | refine LeO.ite ?_ ?_
      | refine LeO.bind ?_ (fun _ => ?_)
def splicelaw02_CodeKeeps.Pure : Prop := ∀ (x0 : List Int), (x0.length * 4 ≤ 140737488351232 ∧ ∀ x_ ∈ x0, U32 x_) → ∃ k, splicelaw02_CodeKeeps.f k x0 = some true

end Go.Proofs.Ytifineoohopchaa.Q
