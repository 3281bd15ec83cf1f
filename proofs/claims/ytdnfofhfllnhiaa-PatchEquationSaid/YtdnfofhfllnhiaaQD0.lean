-- Written by drv.py, a program of this session, over the kit's print, out of the translation. Not trusted: Lean checks it.
import Derived.Test.YtdnfofhfllnhiaaQ0
import Derived.Test.YtdnfofhfllnhiaaQF
import Derived.Test.YtdnfofhfllnhiaaHcld
import Derived.Test.YtdnfofhfllnhiaaHdd
import Derived.Test.YtdnfofhfllnhiaaHfd
import Derived.Test.YtdnfofhfllnhiaaHpdd
import Derived.Test.YtdnfofhfllnhiaaHrgd
import Derived.Test.YtdnfofhfllnhiaaHrtd
namespace Go.Proofs.Ytdnfofhfllnhiaa.Q
open Go.RowKit Go.Proofs.YtdnfofhfllnhiaaW.PrintWords Go.Proofs.YtdnfofhfllnhiaaW.PrintLast Go.Proofs.YtdnfofhfllnhiaaW.PrintMore
attribute [local go_sem] max2_int min2_int max_two min_two max_three min_three max_four min_four   -- for this text's walks alone
set_option linter.unusedVariables false
set_option linter.unusedSimpArgs false

def W46 (x : S46) : Prop := I64 x.f0 ∧ I64 x.f1 ∧ I64 x.f2 ∧ I64 x.f3
def W44 (x : S44) : Prop := x.f0.size ≤ 140737488351232 ∧ True ∧ True ∧ (x.f3.length * 4 ≤ 140737488351232 ∧ ∀ x_ ∈ x.f3, U32 x_) ∧ x.f4.length * 32 ≤ 140737488351232 ∧ ∀ x_ ∈ x.f4, W46 x_
def W55 (x : S55) : Prop := I64 x.f0 ∧ True ∧ I64 x.f2 ∧ (x.f3.length * 1 ≤ 140737488351232 ∧ ∀ x_ ∈ x.f3, U8 x_) ∧ x.f4.length * 32 ≤ 140737488351232 ∧ ∀ x_ ∈ x.f4, W46 x_
def W25 (x : S25) : Prop := (x.f0.length * 72 ≤ 140737488351232 ∧ ∀ x_ ∈ x.f0, W44 x_) ∧ (x.f1.length * 72 ≤ 140737488351232 ∧ ∀ x_ ∈ x.f1, W55 x_) ∧ I64 x.f2
/-! ### place_codes: function 23 -/
mutual
def place_codes.l0 : Nat → List Int → List Int → Int → Int → List (S44) → List (S55) → Int → Option (List Int × Int × Bool)
  | 0, _, _, _, _, _, _, _ => none
  | k + 1, x1, x7, x17, x18, x102000, x102001, x102002 => if x18 < x17 then (if 0 ≤ x18 then (if x18 < (x7.length : Int) then (place_codes.l0 k x1 (x7.set (x18 : Int).toNat (-1)) x17 (wrap64 (x18 + 1)) x102000 x102001 x102002) else (none)) else (none)) else (place_codes.l1 k x7 0 x1 (x1.length : Int) 0 x102000 x102001 x102002)
def place_codes.l1 : Nat → List Int → Int → List Int → Int → Int → List (S44) → List (S55) → Int → Option (List Int × Int × Bool)
  | 0, _, _, _, _, _, _, _, _ => none
  | k + 1, x7, x9, x25, x26, x27, x102000, x102001, x102002 => if x27 < x26 then (if 0 ≤ x27 then (if x27 < (x25.length : Int) then (if (rd x25 x27) < 0 then (some (([] : List Int), 0, false)) else (if (rd x25 x27) ≥ (x7.length : Int) then (some (([] : List Int), 0, false)) else (if 0 ≤ (rd x25 x27) then (if (rd x25 x27) < (x7.length : Int) then (if (rd x7 (rd x25 x27)) ≥ 0 then (some (([] : List Int), 0, false)) else (if (rd x25 x27) < (x102000.length : Int) then (place_codes.l1 k (x7.set ((rd x25 x27) : Int).toNat x9) (wrap64 (x9 + (((rd_T44 x102000 (rd x25 x27)).f3).length : Int))) x25 x26 (wrap64 (x27 + 1)) x102000 x102001 x102002) else (none))) else (none)) else (none)))) else (none)) else (none)) else (if x102002 ≥ 0 then (if x102002 < (x7.length : Int) then (if 0 ≤ x102002 then (some (x7, x9, decide ((rd x7 x102002) ≥ 0))) else (none)) else (some (x7, x9, false))) else (some (x7, x9, false)))
end
def place_codes.f (k : Nat) (l0_0 : List (S44)) (l0_1 : List (S55)) (a0_2 : Int) (l1 : List Int) : Option (List Int × Int × Bool) := if 0 ≤ (l0_0.length : Int) then (if ((l0_0.length : Int) : Int).toNat ≤ 35184372088832 then ((some (List.replicate ((l0_0.length : Int) : Int).toNat 0 : List Int)).bind fun y102 => (place_codes.l0 k l1 y102 (y102.length : Int) 0 l0_0 l0_1 a0_2)) else (none)) else (none)
theorem place_codes.mono_l : ∀ k, (∀ y0 y1 y2 y3 y4 y5 y6, LeO (place_codes.l0 k y0 y1 y2 y3 y4 y5 y6) (place_codes.l0 (k + 1) y0 y1 y2 y3 y4 y5 y6)) ∧ (∀ y0 y1 y2 y3 y4 y5 y6 y7, LeO (place_codes.l1 k y0 y1 y2 y3 y4 y5 y6 y7) (place_codes.l1 (k + 1) y0 y1 y2 y3 y4 y5 y6 y7))
  | 0 => ⟨fun _ _ _ _ _ _ _ r h => by simp [place_codes.l0] at h, fun _ _ _ _ _ _ _ _ r h => by simp [place_codes.l1] at h⟩
  | k + 1 => by
    obtain ⟨ih0, ih1⟩ := place_codes.mono_l k
    refine ⟨?_, ?_⟩
    · intro y0 y1 y2 y3 y4 y5 y6
      unfold place_codes.l0
      repeat' first
      | (with_reducible exact ih0 _ _ _ _ _ _ _)
      | (with_reducible exact ih1 _ _ _ _ _ _ _ _)
      | (with_reducible exact LeO.refl _)
      | (with_reducible exact LeO.none _)
      | (with_reducible refine LeO.ite ?_ ?_)
      | (with_reducible refine LeO.bind ?_ (fun _ => ?_))
    · intro y0 y1 y2 y3 y4 y5 y6 y7
      unfold place_codes.l1
      repeat' first
      | (with_reducible exact ih0 _ _ _ _ _ _ _)
      | (with_reducible exact ih1 _ _ _ _ _ _ _ _)
      | (with_reducible exact LeO.refl _)
      | (with_reducible exact LeO.none _)
      | (with_reducible refine LeO.ite ?_ ?_)
      | (with_reducible refine LeO.bind ?_ (fun _ => ?_))
theorem place_codes.mono : ∀ a0 a1 a2 a3 k, LeO (place_codes.f k a0 a1 a2 a3) (place_codes.f (k + 1) a0 a1 a2 a3) := by
  intro a0 a1 a2 a3 k
  obtain ⟨ih0, ih1⟩ := place_codes.mono_l k
  unfold place_codes.f
  repeat' first
      | (with_reducible exact ih0 _ _ _ _ _ _ _)
      | (with_reducible exact ih1 _ _ _ _ _ _ _ _)
      | (with_reducible exact LeO.refl _)
      | (with_reducible exact LeO.none _)
      | (with_reducible refine LeO.ite ?_ ?_)
      | (with_reducible refine LeO.bind ?_ (fun _ => ?_))
/-! ### bits_Up: function 40 -/
def bits_Up.f (a0 : Int) (a1 : Int) : Option (Int) := if a0 < 0 then (some (-1)) else (if a0 > 1099511627776 then (some (-1)) else (if a1 < 1 then (some (-1)) else (if a1 > 1048576 then (some (-1)) else (if a1 = 0 then (none) else (some (wrap64 ((wrap64 (Int.tdiv (wrap64 ((wrap64 (a0 + a1)) - 1)) a1)) * a1)))))))
/-! ### place_Plan: function 10 -/
def place_Plan.f (k : Nat) (l0_0 : List (S44)) (l0_1 : List (S55)) (a0_2 : Int) (l1 : List Int) : Option (List Int × List Int × Int × Int × Int × Int) := (place_codes.f k l0_0 l0_1 a0_2 l1).bind fun bt113 => (if bt113.2.2 = true then ((place_datas.f l0_0 l0_1 a0_2).bind fun bt118 => (if bt113.2.1 > 65536 then (some (([] : List Int), ([] : List Int), 0, 0, 0, 8)) else (if bt118.2.1 > 65536 then (some (([] : List Int), ([] : List Int), 0, 0, 0, 8)) else (some (bt113.1, bt118.1, bt113.2.1, bt118.2.1, bt118.2.2, 0))))) else (some (([] : List Int), ([] : List Int), 0, 0, 0, 1)))
theorem place_Plan.mono : ∀ a0 a1 a2 a3 k, LeO (place_Plan.f k a0 a1 a2 a3) (place_Plan.f (k + 1) a0 a1 a2 a3) := by
  intro a0 a1 a2 a3 k
  unfold place_Plan.f
  repeat' first
      | (with_reducible exact place_codes.mono _ _ _ _ _)
      | (with_reducible exact LeO.refl _)
      | (with_reducible exact LeO.none _)
      | (with_reducible refine LeO.ite ?_ ?_)
      | (with_reducible refine LeO.bind ?_ (fun _ => ?_))
/-! ### place_Address: function 20 -/
def place_Address.f (a0 : Int) : Option (Int) := some ((wrap64 (65536 + a0)) % 4294967296)
/-! ### bits_may: function 50 -/
def bits_may.f (a0 : Int) : Option (Bool) := if a0 ≥ 1 then (some (decide (a0 ≤ 32))) else (some false)
/-! ### bits_Cut: function 42 -/
def bits_Cut.f (a0 : Int) (a1 : Int) : Option (Int) := (bits_may.f a1).bind fun t123 => (if t123 = true then (if 0 ≤ a1 then (some ((Go.bits .and .u64 (IntKind.u64.wrap (a0)) (IntKind.u64.wrap ((shl .u64 1 a1) - 1))) % 4294967296)) else (none)) else (some 0))
/-! ### patch_value: function 30 -/
def patch_value.f (l0_0 : List Int) (l0_1 : List Int) (a0_2 : Int) (a0_3 : Int) (a0_4 : Int) (a1_0 : Int) (a1_1 : Int) (a1_2 : Int) (a1_3 : Int) : Option (Int × Bool) := if 0 ≤ a1_2 then (if a1_2 < (l0_1.length : Int) then ((place_Address.f (rd l0_1 a1_2)).bind fun t127 => ((bits_Cut.f (wrap64 ((wrap64 (t127)) + a1_3)) 32).bind fun t128 => (if (wrap64 ((wrap64 (t127)) + a1_3)) ≥ 0 then (some (t128, decide ((wrap64 ((wrap64 (t127)) + a1_3)) < 4294967296))) else (some (t128, false))))) else (none)) else (none)
/-! ### bits_Fits: function 41 -/
def bits_Fits.f (a0 : Int) (a1 : Int) : Option (Bool) := (bits_may.f a1).bind fun t129 => (if t129 = true then (if 0 ≤ (wrap64 (a1 - 1)) then (if a0 ≥ (shl .i64 (-1) (wrap64 (a1 - 1))) then (some (decide (a0 < (shl .i64 1 (wrap64 (a1 - 1)))))) else (some false)) else (none)) else (some false))
/-! ### patch_imm: function 26 -/
def patch_imm.f (l0_0 : List Int) (l0_1 : List Int) (a0_2 : Int) (a0_3 : Int) (a0_4 : Int) (a1 : Int) (a2_0 : Int) (a2_1 : Int) (a2_2 : Int) (a2_3 : Int) : Option (Int × Bool) := if a2_1 = 1 then (if 0 ≤ a2_2 then (if a2_2 < (l0_0.length : Int) then (if (rd l0_0 a2_2) ≥ 0 then ((bits_Fits.f (wrap64 ((wrap64 ((wrap64 ((rd l0_0 a2_2) - a1)) - a2_0)) - 1)) 24).bind fun t133 => (some (wrap64 ((wrap64 ((wrap64 ((rd l0_0 a2_2) - a1)) - a2_0)) - 1), t133))) else (some (wrap64 ((wrap64 ((wrap64 ((rd l0_0 a2_2) - a1)) - a2_0)) - 1), false))) else (none)) else (none)) else ((patch_value.f l0_0 l0_1 a0_2 a0_3 a0_4 a2_0 a2_1 a2_2 a2_3).bind fun bt134 => (if a2_1 = 2 then (some (wrap64 (bt134.1 / 65536), bt134.2)) else ((bits_Cut.f (wrap64 (bt134.1)) 16).bind fun t136 => (some (wrap64 (t136), bt134.2)))))
/-! ### code_register: function 51 -/
def code_register.f (a0 : Int) (a1 : Bool) : Option (Bool) := if a0 = 0 then (some true) else (if a1 = true then (if a0 > 0 then (some (decide (a0 < 16))) else (some false)) else (some false))
/-! ### code_form_imm: function 52 -/
def code_form_imm.f (a0_0 : Bool) (a0_1 : Bool) (a0_2 : Bool) (a0_3 : Int) (a0_4 : Bool) (a1 : Int) : Option (Bool) := if a0_3 = 0 then (some (a1 == 0)) else (if a0_4 = true then (if a1 ≥ 0 then (if 0 ≤ a0_3 then (some (decide (a1 < (shl .i64 1 a0_3)))) else (none)) else (some false)) else ((bits_Fits.f a1 a0_3).bind fun t138 => (some t138)))
/-! ### code_Right: function 45 -/
def code_Right.j0 : Nat → Bool → Int → Int → Int → Int → Int → Option (Bool)
  | 0, _, _, _, _, _, _ => none
  | k + 1, x11, x140000, x140001, x140002, x140003, x140004 => if x11 = true then (some false) else ((code_forms.f).bind fun t140 => (if 0 ≤ x140000 then (if x140000 < 26 then ((code_register.f x140001 (form_a x140000)).bind fun t142 => (if t142 = true then ((code_register.f x140002 (form_b x140000)).bind fun t143 => (if t143 = true then ((code_register.f x140003 (form_c x140000)).bind fun t144 => (if t144 = true then ((code_form_imm.f (form_a x140000) (form_b x140000) (form_c x140000) (form_w x140000) (form_p x140000) x140004).bind fun t145 => (some t145)) else (some false))) else (some false))) else (some false))) else (none)) else (none)))
def code_Right.f (k : Nat) (a0_0 : Int) (a0_1 : Int) (a0_2 : Int) (a0_3 : Int) (a0_4 : Int) : Option (Bool) := if a0_0 < 0 then (code_Right.j0 k true a0_0 a0_1 a0_2 a0_3 a0_4) else (code_Right.j0 k (decide (a0_0 ≥ 26)) a0_0 a0_1 a0_2 a0_3 a0_4)
theorem code_Right.mono_l : ∀ k, (∀ y0 y1 y2 y3 y4 y5, LeO (code_Right.j0 k y0 y1 y2 y3 y4 y5) (code_Right.j0 (k + 1) y0 y1 y2 y3 y4 y5))
  | 0 => fun _ _ _ _ _ _ r h => by simp [code_Right.j0] at h
  | k + 1 => by
    have ih0 := code_Right.mono_l k
    · intro y0 y1 y2 y3 y4 y5
      unfold code_Right.j0
      repeat' first
      | (with_reducible exact ih0 _ _ _ _ _ _)
      | (with_reducible exact LeO.refl _)
      | (with_reducible exact LeO.none _)
      | (with_reducible refine LeO.ite ?_ ?_)
      | (with_reducible refine LeO.bind ?_ (fun _ => ?_))
theorem code_Right.mono : ∀ a0 a1 a2 a3 a4 k, LeO (code_Right.f k a0 a1 a2 a3 a4) (code_Right.f (k + 1) a0 a1 a2 a3 a4) := by
  intro a0 a1 a2 a3 a4 k
  have ih0 := code_Right.mono_l k
  unfold code_Right.f
  repeat' first
      | (with_reducible exact ih0 _ _ _ _ _ _)
      | (with_reducible exact LeO.refl _)
      | (with_reducible exact LeO.none _)
      | (with_reducible refine LeO.ite ?_ ?_)
      | (with_reducible refine LeO.bind ?_ (fun _ => ?_))
/-! ### code_Put: function 28 -/
def code_Put.f (k : Nat) (a0_0 : Int) (a0_1 : Int) (a0_2 : Int) (a0_3 : Int) (a0_4 : Int) : Option (Int × Int) := (code_Right.f k a0_0 a0_1 a0_2 a0_3 a0_4).bind fun t147 => (if t147 = true then ((code_forms.f).bind fun t148 => (if 0 ≤ a0_0 then (if a0_0 < 26 then (if (form_w a0_0) > 0 then ((bits_Cut.f a0_4 (form_w a0_0)).bind fun t149 => (some (Go.bits .or .u32 (Go.bits .or .u32 (Go.bits .or .u32 (Go.bits .or .u32 ((((a0_0) % 4294967296) * 16777216) % 4294967296) ((((a0_1) % 4294967296) * 1048576) % 4294967296)) ((((a0_2) % 4294967296) * 65536) % 4294967296)) ((a0_3) % 4294967296)) t149, 0))) else (some (Go.bits .or .u32 (Go.bits .or .u32 (Go.bits .or .u32 ((((a0_0) % 4294967296) * 16777216) % 4294967296) ((((a0_1) % 4294967296) * 1048576) % 4294967296)) ((((a0_2) % 4294967296) * 65536) % 4294967296)) ((a0_3) % 4294967296), 0))) else (none)) else (none))) else (some (0, 3)))
theorem code_Put.mono : ∀ a0 a1 a2 a3 a4 k, LeO (code_Put.f k a0 a1 a2 a3 a4) (code_Put.f (k + 1) a0 a1 a2 a3 a4) := by
  intro a0 a1 a2 a3 a4 k
  unfold code_Put.f
  repeat' first
      | (with_reducible exact code_Right.mono _ _ _ _ _ _)
      | (with_reducible exact LeO.refl _)
      | (with_reducible exact LeO.none _)
      | (with_reducible refine LeO.ite ?_ ?_)
      | (with_reducible refine LeO.bind ?_ (fun _ => ?_))
/-! ### bits_Sign: function 44 -/
def bits_Sign.f (a0 : Int) (a1 : Int) : Option (Int) := (bits_may.f a1).bind fun t150 => (if t150 = true then (if 0 ≤ (wrap64 (64 - a1)) then (some (shr .i64 (wrap64 (shl .u64 (IntKind.u64.wrap (a0)) (wrap64 (64 - a1)))) (wrap64 (64 - a1)))) else (none)) else (some 0))
/-! ### code_Get: function 27 -/
def code_Get.j0 : Nat → Int → Int → Int → Int → Int → Int → Bool → Bool → Bool → Int → Bool → Option (Int × Int × Int × Int × Int × Int)
  | 0, _, _, _, _, _, _, _, _, _, _, _ => none
  | k + 1, x0, x153000, x153001, x153002, x153003, x153004, x155000, x155001, x155002, x155003, x155004 => if x155002 = true then ((code_Put.f k x153000 x153001 x153002 (wrap64 (Go.bits .and .u32 x0 15)) x153004).bind fun bt155 => (if bt155.2 = 0 then (if bt155.1 = x0 then (some (x153000, x153001, x153002, wrap64 (Go.bits .and .u32 x0 15), x153004, 0)) else (some (0, 0, 0, 0, 0, 3))) else (some (0, 0, 0, 0, 0, 3)))) else (if x155004 = true then ((code_Put.f k x153000 x153001 x153002 x153003 (wrap64 (Go.bits .and .u32 x0 65535))).bind fun bt157 => (if bt157.2 = 0 then (if bt157.1 = x0 then (some (x153000, x153001, x153002, x153003, wrap64 (Go.bits .and .u32 x0 65535), 0)) else (some (0, 0, 0, 0, 0, 3))) else (some (0, 0, 0, 0, 0, 3)))) else (if x155003 > 0 then ((bits_Sign.f x0 x155003).bind fun t159 => ((code_Put.f k x153000 x153001 x153002 x153003 t159).bind fun bt160 => (if bt160.2 = 0 then (if bt160.1 = x0 then (some (x153000, x153001, x153002, x153003, t159, 0)) else (some (0, 0, 0, 0, 0, 3))) else (some (0, 0, 0, 0, 0, 3))))) else ((code_Put.f k x153000 x153001 x153002 x153003 x153004).bind fun bt162 => (if bt162.2 = 0 then (if bt162.1 = x0 then (some (x153000, x153001, x153002, x153003, x153004, 0)) else (some (0, 0, 0, 0, 0, 3))) else (some (0, 0, 0, 0, 0, 3))))))
def code_Get.f (k : Nat) (a0 : Int) : Option (Int × Int × Int × Int × Int × Int) := if (wrap64 (a0 / 16777216)) ≥ 26 then (some (0, 0, 0, 0, 0, 3)) else ((code_forms.f).bind fun t153 => (if 0 ≤ (wrap64 (a0 / 16777216)) then (if (wrap64 (a0 / 16777216)) < 26 then (if (form_w (wrap64 (a0 / 16777216))) < 24 then (code_Get.j0 k a0 (wrap64 (a0 / 16777216)) (wrap64 (Go.bits .and .u32 (a0 / 1048576) 15)) (wrap64 (Go.bits .and .u32 (a0 / 65536) 15)) 0 0 (form_a (wrap64 (a0 / 16777216))) (form_b (wrap64 (a0 / 16777216))) (form_c (wrap64 (a0 / 16777216))) (form_w (wrap64 (a0 / 16777216))) (form_p (wrap64 (a0 / 16777216)))) else (code_Get.j0 k a0 (wrap64 (a0 / 16777216)) 0 0 0 0 (form_a (wrap64 (a0 / 16777216))) (form_b (wrap64 (a0 / 16777216))) (form_c (wrap64 (a0 / 16777216))) (form_w (wrap64 (a0 / 16777216))) (form_p (wrap64 (a0 / 16777216))))) else (none)) else (none)))
theorem code_Get.mono_l : ∀ k, (∀ y0 y1 y2 y3 y4 y5 y6 y7 y8 y9 y10, LeO (code_Get.j0 k y0 y1 y2 y3 y4 y5 y6 y7 y8 y9 y10) (code_Get.j0 (k + 1) y0 y1 y2 y3 y4 y5 y6 y7 y8 y9 y10))
  | 0 => fun _ _ _ _ _ _ _ _ _ _ _ r h => by simp [code_Get.j0] at h
  | k + 1 => by
    have ih0 := code_Get.mono_l k
    · intro y0 y1 y2 y3 y4 y5 y6 y7 y8 y9 y10
      unfold code_Get.j0
      repeat' first
      | (with_reducible exact ih0 _ _ _ _ _ _ _ _ _ _ _)
      | (with_reducible exact code_Put.mono _ _ _ _ _ _)
      | (with_reducible exact LeO.refl _)
      | (with_reducible exact LeO.none _)
      | (with_reducible refine LeO.ite ?_ ?_)
      | (with_reducible refine LeO.bind ?_ (fun _ => ?_))
theorem code_Get.mono : ∀ a0 k, LeO (code_Get.f k a0) (code_Get.f (k + 1) a0) := by
  intro a0 k
  have ih0 := code_Get.mono_l k
  unfold code_Get.f
  repeat' first
      | (with_reducible exact ih0 _ _ _ _ _ _ _ _ _ _ _)
      | (with_reducible exact code_Put.mono _ _ _ _ _ _)
      | (with_reducible exact LeO.refl _)
      | (with_reducible exact LeO.none _)
      | (with_reducible refine LeO.ite ?_ ?_)
      | (with_reducible refine LeO.bind ?_ (fun _ => ?_))
/-! ### patch_Code: function 11 -/
mutual
def patch_Code.l0 : Nat → Int → List Int → List (S46) → Int → Int → List Int → List Int → Int → Int → Int → Option (List Int × Int)
  | 0, _, _, _, _, _, _, _, _, _, _ => none
  | k + 1, x2, x8, x27, x28, x29, x166000, x166001, x166002, x166003, x166004 => if x29 < x28 then (if 0 ≤ x29 then (if x29 < (x27.length : Int) then (if 0 ≤ x2 then (if x2 < (x166000.length : Int) then ((patch_imm.f x166000 x166001 x166002 x166003 x166004 (rd x166000 x2) ((rd_T46 x27 x29).f0) ((rd_T46 x27 x29).f1) ((rd_T46 x27 x29).f2) ((rd_T46 x27 x29).f3)).bind fun bt174 => (if 0 ≤ ((rd_T46 x27 x29).f0) then (if ((rd_T46 x27 x29).f0) < (x8.length : Int) then ((code_Get.f k (rd x8 ((rd_T46 x27 x29).f0))).bind fun bt177 => (if bt174.2 = true then (patch_Code.j1 k x2 x8 bt174.1 x27 x28 x29 (bt177.2.2.2.2.2 != 0) x166000 x166001 x166002 x166003 x166004 ((rd_T46 x27 x29).f0) ((rd_T46 x27 x29).f1) ((rd_T46 x27 x29).f2) ((rd_T46 x27 x29).f3) bt177.1 bt177.2.1 bt177.2.2.1 bt177.2.2.2.1 bt177.2.2.2.2.1) else (patch_Code.j1 k x2 x8 bt174.1 x27 x28 x29 true x166000 x166001 x166002 x166003 x166004 ((rd_T46 x27 x29).f0) ((rd_T46 x27 x29).f1) ((rd_T46 x27 x29).f2) ((rd_T46 x27 x29).f3) bt177.1 bt177.2.1 bt177.2.2.1 bt177.2.2.2.1 bt177.2.2.2.2.1))) else (none)) else (none))) else (none)) else (none)) else (none)) else (none)) else (some (x8, 0))
def patch_Code.j1 : Nat → Int → List Int → Int → List (S46) → Int → Int → Bool → List Int → List Int → Int → Int → Int → Int → Int → Int → Int → Int → Int → Int → Int → Int → Option (List Int × Int)
  | 0, _, _, _, _, _, _, _, _, _, _, _, _, _, _, _, _, _, _, _, _, _ => none
  | k + 1, x2, x8, x11, x27, x28, x29, x58, x166000, x166001, x166002, x166003, x166004, x173000, x173001, x173002, x173003, x184000, x184001, x184002, x184003, x184004 => if x58 = true then (some (([] : List Int), 7)) else ((code_Put.f k x184000 x184001 x184002 x184003 x11).bind fun bt184 => (if 0 ≤ x173000 then (if x173000 < (x8.length : Int) then (if bt184.2 = 0 then (patch_Code.l0 k x2 (x8.set (x173000 : Int).toNat bt184.1) x27 x28 (wrap64 (x29 + 1)) x166000 x166001 x166002 x166003 x166004) else (some (([] : List Int), 7))) else (none)) else (none)))
end
def patch_Code.f (k : Nat) (l0_0 : List (S44)) (l0_1 : List (S55)) (a0_2 : Int) (l1_0 : List Int) (l1_1 : List Int) (a1_2 : Int) (a1_3 : Int) (a1_4 : Int) (a2 : Int) : Option (List Int × Int) := if 0 ≤ a2 then (if a2 < (l0_0.length : Int) then ((slices_Clone_uint32_uint32.f ((rd_T44 l0_0 a2).f3)).bind fun t167 => (patch_Code.l0 k a2 t167 ((rd_T44 l0_0 a2).f4) (((rd_T44 l0_0 a2).f4).length : Int) 0 l1_0 l1_1 a1_2 a1_3 a1_4)) else (none)) else (none)
theorem patch_Code.mono_l : ∀ k, (∀ y0 y1 y2 y3 y4 y5 y6 y7 y8 y9, LeO (patch_Code.l0 k y0 y1 y2 y3 y4 y5 y6 y7 y8 y9) (patch_Code.l0 (k + 1) y0 y1 y2 y3 y4 y5 y6 y7 y8 y9)) ∧ (∀ y0 y1 y2 y3 y4 y5 y6 y7 y8 y9 y10 y11 y12 y13 y14 y15 y16 y17 y18 y19 y20, LeO (patch_Code.j1 k y0 y1 y2 y3 y4 y5 y6 y7 y8 y9 y10 y11 y12 y13 y14 y15 y16 y17 y18 y19 y20) (patch_Code.j1 (k + 1) y0 y1 y2 y3 y4 y5 y6 y7 y8 y9 y10 y11 y12 y13 y14 y15 y16 y17 y18 y19 y20))
  | 0 => ⟨fun _ _ _ _ _ _ _ _ _ _ r h => by simp [patch_Code.l0] at h, fun _ _ _ _ _ _ _ _ _ _ _ _ _ _ _ _ _ _ _ _ _ r h => by simp [patch_Code.j1] at h⟩
  | k + 1 => by
    obtain ⟨ih0, ih1⟩ := patch_Code.mono_l k
    refine ⟨?_, ?_⟩
    · intro y0 y1 y2 y3 y4 y5 y6 y7 y8 y9
      unfold patch_Code.l0
      repeat' first
      | (with_reducible exact ih0 _ _ _ _ _ _ _ _ _ _)
      | (with_reducible exact ih1 _ _ _ _ _ _ _ _ _ _ _ _ _ _ _ _ _ _ _ _ _)
      | (with_reducible exact code_Get.mono _ _)
      | (with_reducible exact code_Put.mono _ _ _ _ _ _)
      | (with_reducible exact LeO.refl _)
      | (with_reducible exact LeO.none _)
      | (with_reducible refine LeO.ite ?_ ?_)
      | (with_reducible refine LeO.bind ?_ (fun _ => ?_))
    · intro y0 y1 y2 y3 y4 y5 y6 y7 y8 y9 y10 y11 y12 y13 y14 y15 y16 y17 y18 y19 y20
      unfold patch_Code.j1
      repeat' first
      | (with_reducible exact ih0 _ _ _ _ _ _ _ _ _ _)
      | (with_reducible exact ih1 _ _ _ _ _ _ _ _ _ _ _ _ _ _ _ _ _ _ _ _ _)
      | (with_reducible exact code_Get.mono _ _)
      | (with_reducible exact code_Put.mono _ _ _ _ _ _)
      | (with_reducible exact LeO.refl _)
      | (with_reducible exact LeO.none _)
      | (with_reducible refine LeO.ite ?_ ?_)
      | (with_reducible refine LeO.bind ?_ (fun _ => ?_))
theorem patch_Code.mono : ∀ a0 a1 a2 a3 a4 a5 a6 a7 a8 k, LeO (patch_Code.f k a0 a1 a2 a3 a4 a5 a6 a7 a8) (patch_Code.f (k + 1) a0 a1 a2 a3 a4 a5 a6 a7 a8) := by
  intro a0 a1 a2 a3 a4 a5 a6 a7 a8 k
  obtain ⟨ih0, ih1⟩ := patch_Code.mono_l k
  unfold patch_Code.f
  repeat' first
      | (with_reducible exact ih0 _ _ _ _ _ _ _ _ _ _)
      | (with_reducible exact ih1 _ _ _ _ _ _ _ _ _ _ _ _ _ _ _ _ _ _ _ _ _)
      | (with_reducible exact code_Get.mono _ _)
      | (with_reducible exact code_Put.mono _ _ _ _ _ _)
      | (with_reducible exact LeO.refl _)
      | (with_reducible exact LeO.none _)
      | (with_reducible refine LeO.ite ?_ ?_)
      | (with_reducible refine LeO.bind ?_ (fun _ => ?_))
/-! ### bits_Put: function 31 -/
def bits_Put.f (a0 : Int) : Option (Int × Int × Int × Int) := some ((a0) % 256, (a0 / 256) % 256, (a0 / 65536) % 256, (a0 / 16777216) % 256)
/-! ### spliceref01_Same: function 16 -/
def spliceref01_Same.l0 : Nat → List Int → List Int → Int → Option (Bool)
  | 0, _, _, _ => none
  | k + 1, x0, x1, x5 => if x5 < (x0.length : Int) then (if 0 ≤ x5 then (if x5 < (x1.length : Int) then (if (rd x0 x5) = (rd x1 x5) then (spliceref01_Same.l0 k x0 x1 (wrap64 (x5 + 1))) else (some false)) else (none)) else (none)) else (some true)
def spliceref01_Same.f (k : Nat) (l0 : List Int) (l1 : List Int) : Option (Bool) := if (l0.length : Int) = (l1.length : Int) then (spliceref01_Same.l0 k l0 l1 0) else (some false)
theorem spliceref01_Same.mono_l : ∀ k, (∀ y0 y1 y2, LeO (spliceref01_Same.l0 k y0 y1 y2) (spliceref01_Same.l0 (k + 1) y0 y1 y2))
  | 0 => fun _ _ _ r h => by simp [spliceref01_Same.l0] at h
  | k + 1 => by
    have ih0 := spliceref01_Same.mono_l k
    · intro y0 y1 y2
      unfold spliceref01_Same.l0
      repeat' first
      | (with_reducible exact ih0 _ _ _)
      | (with_reducible exact LeO.refl _)
      | (with_reducible exact LeO.none _)
      | (with_reducible refine LeO.ite ?_ ?_)
      | (with_reducible refine LeO.bind ?_ (fun _ => ?_))
theorem spliceref01_Same.mono : ∀ a0 a1 k, LeO (spliceref01_Same.f k a0 a1) (spliceref01_Same.f (k + 1) a0 a1) := by
  intro a0 a1 k
  have ih0 := spliceref01_Same.mono_l k
  unfold spliceref01_Same.f
  repeat' first
      | (with_reducible exact ih0 _ _ _)
      | (with_reducible exact LeO.refl _)
      | (with_reducible exact LeO.none _)
      | (with_reducible refine LeO.ite ?_ ?_)
      | (with_reducible refine LeO.bind ?_ (fun _ => ?_))
/-! ### splicelaw13_awake: function 8 -/
def splicelaw13_awake.f (k : Nat)  : Option (Bool) := (some (([(⟨(⟨#[]⟩ : ByteArray), false, false, (([335544320, 352321536] : List Int)), (([(⟨0, 1, 1, 0⟩ : S46)] : List (S46)))⟩ : S44), (⟨(⟨#[]⟩ : ByteArray), false, false, (([152043520, 352321536] : List Int)), (([(⟨0, 2, 0, 0⟩ : S46)] : List (S46)))⟩ : S44)] : List (S44)) : List (S44))).bind fun y202 => ((some (([(⟨4, false, 4, ([] : List Int), (([(⟨0, 4, 0, 2⟩ : S46)] : List (S46)))⟩ : S55)] : List (S55)) : List (S55))).bind fun y208 => ((place_Plan.f k y202 y208 0 (([0, 1] : List Int))).bind fun bt215 => (if bt215.2.2.2.2.2 = 0 then ((patch_Code.f k y202 y208 0 bt215.1 bt215.2.1 bt215.2.2.1 bt215.2.2.2.1 bt215.2.2.2.2.1 0).bind fun bt226 => ((patch_Code.f k y202 y208 0 bt215.1 bt215.2.1 bt215.2.2.1 bt215.2.2.2.1 bt215.2.2.2.2.1 1).bind fun bt230 => ((patch_Data.f y202 y208 0 bt215.1 bt215.2.1 bt215.2.2.1 bt215.2.2.2.1 bt215.2.2.2.2.1 0).bind fun bt234 => (if bt226.2 = 0 then (if (bt226.1.length : Int) = 2 then (if 0 < (bt226.1.length : Int) then (if (rd bt226.1 0) = 335544321 then (if bt230.2 = 0 then (if 0 < (bt230.1.length : Int) then (if (rd bt230.1 0) = 152043521 then (if bt234.2 = 0 then ((spliceref01_Same.f k bt234.1 (([2, 0, 1, 0] : List Int))).bind fun t243 => (some t243)) else (none)) else (none)) else (none)) else (none)) else (none)) else (none)) else (none)) else (none))))) else (none))))
theorem splicelaw13_awake.mono : ∀ k, LeO (splicelaw13_awake.f k ) (splicelaw13_awake.f (k + 1) ) := by
  intro  k
  unfold splicelaw13_awake.f
  repeat' first
      | (with_reducible exact patch_Code.mono _ _ _ _ _ _ _ _ _ _)
      | (with_reducible exact place_Plan.mono _ _ _ _ _)
      | (with_reducible exact spliceref01_Same.mono _ _ _)
      | (with_reducible exact LeO.refl _)
      | (with_reducible exact LeO.none _)
      | (with_reducible refine LeO.ite ?_ ?_)
      | (with_reducible refine LeO.bind ?_ (fun _ => ?_))
/-! ### spliceref12_May: function 21 -/
mutual
def spliceref12_May.j0 : Nat → Bool → List (S44) → List (S55) → Int → Option (Bool)
  | 0, _, _, _, _ => none
  | k + 1, x15, x245000, x245001, x245002 => if x15 = true then (some false) else (spliceref12_May.l0 k 0 x245000 x245001 x245002)
def spliceref12_May.l0 : Nat → Int → List (S44) → List (S55) → Int → Option (Bool)
  | 0, _, _, _, _ => none
  | k + 1, x3, x245000, x245001, x245002 => if x3 < (x245000.length : Int) then (if 0 ≤ x3 then (if (((rd_T44 x245000 x3).f3).length : Int) > 70000 then (some false) else (if (((rd_T44 x245000 x3).f4).length : Int) > 300 then (some false) else (spliceref12_May.l0 k (wrap64 (x3 + 1)) x245000 x245001 x245002))) else (none)) else (spliceref12_May.l1 k 0 x245000 x245001 x245002)
def spliceref12_May.l1 : Nat → Int → List (S44) → List (S55) → Int → Option (Bool)
  | 0, _, _, _, _ => none
  | k + 1, x4, x245000, x245001, x245002 => if x4 < (x245001.length : Int) then (if 0 ≤ x4 then (if ((rd_T55 x245001 x4).f0) < 1 then (some false) else (if ((rd_T55 x245001 x4).f0) > 16 then (some false) else (if ((rd_T55 x245001 x4).f2) < 1 then (some false) else (if ((rd_T55 x245001 x4).f2) > 4096 then (some false) else (if (((rd_T55 x245001 x4).f3).length : Int) > ((rd_T55 x245001 x4).f2) then (some false) else (if (((rd_T55 x245001 x4).f4).length : Int) > 300 then (some false) else (spliceref12_May.l1 k (wrap64 (x4 + 1)) x245000 x245001 x245002))))))) else (none)) else (some true)
end
def spliceref12_May.f (k : Nat) (l0_0 : List (S44)) (l0_1 : List (S55)) (a0_2 : Int) : Option (Bool) := if (l0_0.length : Int) > 300 then (spliceref12_May.j0 k true l0_0 l0_1 a0_2) else (spliceref12_May.j0 k (decide ((l0_1.length : Int) > 300)) l0_0 l0_1 a0_2)
theorem spliceref12_May.mono_l : ∀ k, (∀ y0 y1 y2 y3, LeO (spliceref12_May.j0 k y0 y1 y2 y3) (spliceref12_May.j0 (k + 1) y0 y1 y2 y3)) ∧ (∀ y0 y1 y2 y3, LeO (spliceref12_May.l0 k y0 y1 y2 y3) (spliceref12_May.l0 (k + 1) y0 y1 y2 y3)) ∧ (∀ y0 y1 y2 y3, LeO (spliceref12_May.l1 k y0 y1 y2 y3) (spliceref12_May.l1 (k + 1) y0 y1 y2 y3))
  | 0 => ⟨fun _ _ _ _ r h => by simp [spliceref12_May.j0] at h, fun _ _ _ _ r h => by simp [spliceref12_May.l0] at h, fun _ _ _ _ r h => by simp [spliceref12_May.l1] at h⟩
  | k + 1 => by
    obtain ⟨ih0, ih1, ih2⟩ := spliceref12_May.mono_l k
    refine ⟨?_, ?_, ?_⟩
    · intro y0 y1 y2 y3
      unfold spliceref12_May.j0
      repeat' first
      | (with_reducible exact ih0 _ _ _ _)
      | (with_reducible exact ih1 _ _ _ _)
      | (with_reducible exact ih2 _ _ _ _)
      | (with_reducible exact LeO.refl _)
      | (with_reducible exact LeO.none _)
      | (with_reducible refine LeO.ite ?_ ?_)
      | (with_reducible refine LeO.bind ?_ (fun _ => ?_))
    · intro y0 y1 y2 y3
      unfold spliceref12_May.l0
      repeat' first
      | (with_reducible exact ih0 _ _ _ _)
      | (with_reducible exact ih1 _ _ _ _)
      | (with_reducible exact ih2 _ _ _ _)
      | (with_reducible exact LeO.refl _)
      | (with_reducible exact LeO.none _)
      | (with_reducible refine LeO.ite ?_ ?_)
      | (with_reducible refine LeO.bind ?_ (fun _ => ?_))
    · intro y0 y1 y2 y3
      unfold spliceref12_May.l1
      repeat' first
      | (with_reducible exact ih0 _ _ _ _)
      | (with_reducible exact ih1 _ _ _ _)
      | (with_reducible exact ih2 _ _ _ _)
      | (with_reducible exact LeO.refl _)
      | (with_reducible exact LeO.none _)
      | (with_reducible refine LeO.ite ?_ ?_)
      | (with_reducible refine LeO.bind ?_ (fun _ => ?_))
theorem spliceref12_May.mono : ∀ a0 a1 a2 k, LeO (spliceref12_May.f k a0 a1 a2) (spliceref12_May.f (k + 1) a0 a1 a2) := by
  intro a0 a1 a2 k
  obtain ⟨ih0, ih1, ih2⟩ := spliceref12_May.mono_l k
  unfold spliceref12_May.f
  repeat' first
      | (with_reducible exact ih0 _ _ _ _)
      | (with_reducible exact ih1 _ _ _ _)
      | (with_reducible exact ih2 _ _ _ _)
      | (with_reducible exact LeO.refl _)
      | (with_reducible exact LeO.none _)
      | (with_reducible refine LeO.ite ?_ ?_)
      | (with_reducible refine LeO.bind ?_ (fun _ => ?_))
/-! ### spliceref02_far: function 33 -/
def spliceref02_far.f (a0 : Int) : Option (Bool) := if a0 = 19 then (some true) else (some (a0 == 20))
/-! ### spliceref01_Power: function 47 -/
def spliceref01_Power.l0 : Nat → Int → Int → Int → Option (Int)
  | 0, _, _, _ => none
  | k + 1, x0, x3, x4 => if x4 < x0 then (spliceref01_Power.l0 k x0 (wrap64 (2 * x3)) (wrap64 (x4 + 1))) else (some x3)
def spliceref01_Power.f (k : Nat) (a0 : Int) : Option (Int) := spliceref01_Power.l0 k a0 1 0
theorem spliceref01_Power.mono_l : ∀ k, (∀ y0 y1 y2, LeO (spliceref01_Power.l0 k y0 y1 y2) (spliceref01_Power.l0 (k + 1) y0 y1 y2))
  | 0 => fun _ _ _ r h => by simp [spliceref01_Power.l0] at h
  | k + 1 => by
    have ih0 := spliceref01_Power.mono_l k
    · intro y0 y1 y2
      unfold spliceref01_Power.l0
      repeat' first
      | (with_reducible exact ih0 _ _ _)
      | (with_reducible exact LeO.refl _)
      | (with_reducible exact LeO.none _)
      | (with_reducible refine LeO.ite ?_ ?_)
      | (with_reducible refine LeO.bind ?_ (fun _ => ?_))
theorem spliceref01_Power.mono : ∀ a0 k, LeO (spliceref01_Power.f k a0) (spliceref01_Power.f (k + 1) a0) := by
  intro a0 k
  have ih0 := spliceref01_Power.mono_l k
  unfold spliceref01_Power.f
  repeat' first
      | (with_reducible exact ih0 _ _ _)
      | (with_reducible exact LeO.refl _)
      | (with_reducible exact LeO.none _)
      | (with_reducible refine LeO.ite ?_ ?_)
      | (with_reducible refine LeO.bind ?_ (fun _ => ?_))
/-! ### spliceref01_Sign: function 34 -/
def spliceref01_Sign.j0 : Nat → Int → Int → Bool → Option (Int)
  | 0, _, _, _ => none
  | k + 1, x0, x1, x11 => if x11 = true then (some 0) else ((spliceref01_Power.f k x1).bind fun t249 => (if t249 = 0 then (none) else ((spliceref01_Power.f k x1).bind fun t250 => (if (Int.tmod (wrap64 (x0)) t249) ≥ (wrap64 (Int.tdiv t250 2)) then ((spliceref01_Power.f k x1).bind fun t251 => (some (wrap64 ((Int.tmod (wrap64 (x0)) t249) - t251)))) else (some (Int.tmod (wrap64 (x0)) t249))))))
def spliceref01_Sign.f (k : Nat) (a0 : Int) (a1 : Int) : Option (Int) := if a1 < 1 then (spliceref01_Sign.j0 k a0 a1 true) else (spliceref01_Sign.j0 k a0 a1 (decide (a1 > 32)))
theorem spliceref01_Sign.mono_l : ∀ k, (∀ y0 y1 y2, LeO (spliceref01_Sign.j0 k y0 y1 y2) (spliceref01_Sign.j0 (k + 1) y0 y1 y2))
  | 0 => fun _ _ _ r h => by simp [spliceref01_Sign.j0] at h
  | k + 1 => by
    have ih0 := spliceref01_Sign.mono_l k
    · intro y0 y1 y2
      unfold spliceref01_Sign.j0
      repeat' first
      | (with_reducible exact ih0 _ _ _)
      | (with_reducible exact spliceref01_Power.mono _ _)
      | (with_reducible exact LeO.refl _)
      | (with_reducible exact LeO.none _)
      | (with_reducible refine LeO.ite ?_ ?_)
      | (with_reducible refine LeO.bind ?_ (fun _ => ?_))
theorem spliceref01_Sign.mono : ∀ a0 a1 k, LeO (spliceref01_Sign.f k a0 a1) (spliceref01_Sign.f (k + 1) a0 a1) := by
  intro a0 a1 k
  have ih0 := spliceref01_Sign.mono_l k
  unfold spliceref01_Sign.f
  repeat' first
      | (with_reducible exact ih0 _ _ _)
      | (with_reducible exact spliceref01_Power.mono _ _)
      | (with_reducible exact LeO.refl _)
      | (with_reducible exact LeO.none _)
      | (with_reducible refine LeO.ite ?_ ?_)
      | (with_reducible refine LeO.bind ?_ (fun _ => ?_))
/-! ### spliceref02_three: function 35 -/
def spliceref02_three.f (a0 : Int) : Option (Bool) := if a0 ≥ 1 then (some (decide (a0 ≤ 7))) else (some false)
/-! ### spliceref02_near: function 36 -/
def spliceref02_near.f (a0 : Int) : Option (Bool) := if a0 = 8 then (some true) else (if a0 ≥ 11 then (some (decide (a0 ≤ 14))) else (some false))
/-! ### spliceref02_branch: function 37 -/
def spliceref02_branch.f (a0 : Int) : Option (Bool) := if a0 ≥ 15 then (some (decide (a0 ≤ 18))) else (some false)
/-! ### spliceref02_reg: function 48 -/
def spliceref02_reg.f (a0 : Int) : Option (Bool) := if a0 ≥ 0 then (some (decide (a0 ≤ 15))) else (some false)
/-! ### spliceref02_one: function 49 -/
def spliceref02_one.f (a0 : Int) : Option (Bool) := if a0 = 0 then (some true) else (if a0 = 22 then (some true) else (some (a0 == 23)))
/-! ### spliceref02_Right: function 38 -/
def spliceref02_Right.f (a0_0 : Int) (a0_1 : Int) (a0_2 : Int) (a0_3 : Int) (a0_4 : Int) : Option (Bool) := (spliceref02_three.f a0_0).bind fun t253 => (if t253 = true then ((spliceref02_reg.f a0_1).bind fun t254 => (if t254 = true then ((spliceref02_reg.f a0_2).bind fun t255 => (if t255 = true then ((spliceref02_reg.f a0_3).bind fun t256 => (if t256 = true then (some (a0_4 == 0)) else (some false))) else (some false))) else (some false))) else (if a0_3 = 0 then ((spliceref02_near.f a0_0).bind fun t257 => (if t257 = true then ((spliceref02_reg.f a0_1).bind fun t258 => (if t258 = true then ((spliceref02_reg.f a0_2).bind fun t259 => (if t259 = true then (if a0_4 ≥ (-32768) then (some (decide (a0_4 ≤ 32767))) else (some false)) else (some false))) else (some false))) else (if a0_0 = 10 then ((spliceref02_reg.f a0_1).bind fun t260 => (if t260 = true then ((spliceref02_reg.f a0_2).bind fun t261 => (if t261 = true then (if a0_4 ≥ 0 then (some (decide (a0_4 ≤ 65535))) else (some false)) else (some false))) else (some false))) else ((spliceref02_branch.f a0_0).bind fun t262 => (if t262 = true then ((spliceref02_reg.f a0_1).bind fun t263 => (if t263 = true then ((spliceref02_reg.f a0_2).bind fun t264 => (if t264 = true then (if a0_4 ≥ (-128) then (some (decide (a0_4 ≤ 127))) else (some false)) else (some false))) else (some false))) else (if a0_2 = 0 then (if a0_0 = 9 then ((spliceref02_reg.f a0_1).bind fun t265 => (if t265 = true then (if a0_4 ≥ 0 then (some (decide (a0_4 ≤ 65535))) else (some false)) else (some false))) else ((spliceref02_one.f a0_0).bind fun t266 => (if t266 = true then ((spliceref02_reg.f a0_1).bind fun t267 => (if t267 = true then (some (a0_4 == 0)) else (some false))) else ((spliceref02_far.f a0_0).bind fun t268 => (if t268 = true then (if a0_1 = 0 then (if a0_4 ≥ (-8388608) then (some (decide (a0_4 ≤ 8388607))) else (some false)) else (some false)) else (if a0_0 = 21 then (if a0_1 = 0 then (some (a0_4 == 0)) else (some false)) else (if a0_0 = 24 then (if a0_1 = 0 then (some (a0_4 == 0)) else (some false)) else (if a0_0 = 25 then (if a0_1 = 0 then (some (a0_4 == 0)) else (some false)) else (some false))))))))) else (some false))))))) else (some false)))
/-! ### splicelaw13_fine: function 9 -/
def splicelaw13_fine.f (k : Nat) (l0_0 : List (S44)) (l0_1 : List (S55)) (a0_2 : Int) (l1 : List Int) : Option (Bool) := (spliceref12_May.f k l0_0 l0_1 a0_2).bind fun t270 => (if t270 = true then ((spliceref13_Right.f l0_0 l0_1 a0_2).bind fun t271 => (if t271 = true then (some (decide ((l1.length : Int) ≤ 400))) else (some false))) else (some false))
theorem splicelaw13_fine.mono : ∀ a0 a1 a2 a3 k, LeO (splicelaw13_fine.f k a0 a1 a2 a3) (splicelaw13_fine.f (k + 1) a0 a1 a2 a3) := by
  intro a0 a1 a2 a3 k
  unfold splicelaw13_fine.f
  repeat' first
      | (with_reducible exact spliceref12_May.mono _ _ _ _)
      | (with_reducible exact LeO.refl _)
      | (with_reducible exact LeO.none _)
      | (with_reducible refine LeO.ite ?_ ?_)
      | (with_reducible refine LeO.bind ?_ (fun _ => ?_))
/-! ### spliceref01_Mod: function 53 -/
def spliceref01_Mod.f (a0 : Int) (a1 : Int) : Option (Int) := if a1 = 0 then (none) else (if (Int.tmod a0 a1) < 0 then (some (wrap64 ((Int.tmod a0 a1) + a1))) else (some (Int.tmod a0 a1)))
/-! ### spliceref01_Cut: function 46 -/
def spliceref01_Cut.j0 : Nat → Int → Int → Bool → Option (Int)
  | 0, _, _, _ => none
  | k + 1, x0, x1, x10 => if x10 = true then (some 0) else ((spliceref01_Power.f k x1).bind fun t272 => ((spliceref01_Mod.f x0 t272).bind fun t273 => (some ((t273) % 4294967296))))
def spliceref01_Cut.f (k : Nat) (a0 : Int) (a1 : Int) : Option (Int) := if a1 < 1 then (spliceref01_Cut.j0 k a0 a1 true) else (spliceref01_Cut.j0 k a0 a1 (decide (a1 > 32)))
theorem spliceref01_Cut.mono_l : ∀ k, (∀ y0 y1 y2, LeO (spliceref01_Cut.j0 k y0 y1 y2) (spliceref01_Cut.j0 (k + 1) y0 y1 y2))
  | 0 => fun _ _ _ r h => by simp [spliceref01_Cut.j0] at h
  | k + 1 => by
    have ih0 := spliceref01_Cut.mono_l k
    · intro y0 y1 y2
      unfold spliceref01_Cut.j0
      repeat' first
      | (with_reducible exact ih0 _ _ _)
      | (with_reducible exact spliceref01_Power.mono _ _)
      | (with_reducible exact LeO.refl _)
      | (with_reducible exact LeO.none _)
      | (with_reducible refine LeO.ite ?_ ?_)
      | (with_reducible refine LeO.bind ?_ (fun _ => ?_))
theorem spliceref01_Cut.mono : ∀ a0 a1 k, LeO (spliceref01_Cut.f k a0 a1) (spliceref01_Cut.f (k + 1) a0 a1) := by
  intro a0 a1 k
  have ih0 := spliceref01_Cut.mono_l k
  unfold spliceref01_Cut.f
  repeat' first
      | (with_reducible exact ih0 _ _ _)
      | (with_reducible exact spliceref01_Power.mono _ _)
      | (with_reducible exact LeO.refl _)
      | (with_reducible exact LeO.none _)
      | (with_reducible refine LeO.ite ?_ ?_)
      | (with_reducible refine LeO.bind ?_ (fun _ => ?_))
/-! ### spliceref02_Put: function 29 -/
def spliceref02_Put.j0 : Nat → Int → Int → Int → Int → Int → Int → Option (Int)
  | 0, _, _, _, _, _, _ => none
  | k + 1, x3, x275000, x275001, x275002, x275003, x275004 => (spliceref02_far.f x275000).bind fun t276 => (if t276 = true then ((spliceref01_Cut.f k x275004 24).bind fun t277 => (some ((((wrap64 ((wrap64 ((wrap64 ((wrap64 (x275000 * 16777216)) + (wrap64 (x275001 * 1048576)))) + (wrap64 (x275002 * 65536)))) + x275003)) % 4294967296) + t277) % 4294967296))) else ((spliceref01_Cut.f k x275004 x3).bind fun t278 => (some ((((wrap64 ((wrap64 ((wrap64 ((wrap64 (x275000 * 16777216)) + (wrap64 (x275001 * 1048576)))) + (wrap64 (x275002 * 65536)))) + x275003)) % 4294967296) + t278) % 4294967296))))
def spliceref02_Put.f (k : Nat) (a0_0 : Int) (a0_1 : Int) (a0_2 : Int) (a0_3 : Int) (a0_4 : Int) : Option (Int) := (spliceref02_branch.f a0_0).bind fun t275 => (if t275 = true then (spliceref02_Put.j0 k 8 a0_0 a0_1 a0_2 a0_3 a0_4) else (spliceref02_Put.j0 k 16 a0_0 a0_1 a0_2 a0_3 a0_4))
theorem spliceref02_Put.mono_l : ∀ k, (∀ y0 y1 y2 y3 y4 y5, LeO (spliceref02_Put.j0 k y0 y1 y2 y3 y4 y5) (spliceref02_Put.j0 (k + 1) y0 y1 y2 y3 y4 y5))
  | 0 => fun _ _ _ _ _ _ r h => by simp [spliceref02_Put.j0] at h
  | k + 1 => by
    have ih0 := spliceref02_Put.mono_l k
    · intro y0 y1 y2 y3 y4 y5
      unfold spliceref02_Put.j0
      repeat' first
      | (with_reducible exact ih0 _ _ _ _ _ _)
      | (with_reducible exact spliceref01_Cut.mono _ _ _)
      | (with_reducible exact LeO.refl _)
      | (with_reducible exact LeO.none _)
      | (with_reducible refine LeO.ite ?_ ?_)
      | (with_reducible refine LeO.bind ?_ (fun _ => ?_))
theorem spliceref02_Put.mono : ∀ a0 a1 a2 a3 a4 k, LeO (spliceref02_Put.f k a0 a1 a2 a3 a4) (spliceref02_Put.f (k + 1) a0 a1 a2 a3 a4) := by
  intro a0 a1 a2 a3 a4 k
  have ih0 := spliceref02_Put.mono_l k
  unfold spliceref02_Put.f
  repeat' first
      | (with_reducible exact ih0 _ _ _ _ _ _)
      | (with_reducible exact spliceref01_Cut.mono _ _ _)
      | (with_reducible exact LeO.refl _)
      | (with_reducible exact LeO.none _)
      | (with_reducible refine LeO.ite ?_ ?_)
      | (with_reducible refine LeO.bind ?_ (fun _ => ?_))
/-! ### spliceref01_Words: function 13 -/
def spliceref01_Words.l0 : Nat → List Int → List Int → Int → Option (Bool)
  | 0, _, _, _ => none
  | k + 1, x0, x1, x5 => if x5 < (x0.length : Int) then (if 0 ≤ x5 then (if x5 < (x1.length : Int) then (if (rd x0 x5) = (rd x1 x5) then (spliceref01_Words.l0 k x0 x1 (wrap64 (x5 + 1))) else (some false)) else (none)) else (none)) else (some true)
def spliceref01_Words.f (k : Nat) (l0 : List Int) (l1 : List Int) : Option (Bool) := if (l0.length : Int) = (l1.length : Int) then (spliceref01_Words.l0 k l0 l1 0) else (some false)
theorem spliceref01_Words.mono_l : ∀ k, (∀ y0 y1 y2, LeO (spliceref01_Words.l0 k y0 y1 y2) (spliceref01_Words.l0 (k + 1) y0 y1 y2))
  | 0 => fun _ _ _ r h => by simp [spliceref01_Words.l0] at h
  | k + 1 => by
    have ih0 := spliceref01_Words.mono_l k
    · intro y0 y1 y2
      unfold spliceref01_Words.l0
      repeat' first
      | (with_reducible exact ih0 _ _ _)
      | (with_reducible exact LeO.refl _)
      | (with_reducible exact LeO.none _)
      | (with_reducible refine LeO.ite ?_ ?_)
      | (with_reducible refine LeO.bind ?_ (fun _ => ?_))
theorem spliceref01_Words.mono : ∀ a0 a1 k, LeO (spliceref01_Words.f k a0 a1) (spliceref01_Words.f (k + 1) a0 a1) := by
  intro a0 a1 k
  have ih0 := spliceref01_Words.mono_l k
  unfold spliceref01_Words.f
  repeat' first
      | (with_reducible exact ih0 _ _ _)
      | (with_reducible exact LeO.refl _)
      | (with_reducible exact LeO.none _)
      | (with_reducible refine LeO.ite ?_ ?_)
      | (with_reducible refine LeO.bind ?_ (fun _ => ?_))
/-! ### spliceref01_Put: function 32 -/
def spliceref01_Put.f (a0 : Int) : Option (List Int) := some (([(Int.tmod (wrap64 (a0)) 256) % 256, (Int.tmod (wrap64 (Int.tdiv (wrap64 (a0)) 256)) 256) % 256, (Int.tmod (wrap64 (Int.tdiv (wrap64 (a0)) 65536)) 256) % 256, (wrap64 (Int.tdiv (wrap64 (a0)) 16777216)) % 256] : List Int))
/-! ### place_All: function 18 -/
def place_All.l0 : Nat → List Int → Int → Int → Option (List Int)
  | 0, _, _, _ => none
  | k + 1, x3, x7, x8 => if x8 < x7 then (if x3.length < 17592186044416 then (place_All.l0 k (x3 ++ [x8]) x7 (wrap64 (x8 + 1))) else (none)) else (some x3)
def place_All.f (k : Nat) (l0_0 : List (S44)) (l0_1 : List (S55)) (a0_2 : Int) : Option (List Int) := place_All.l0 k ([] : List Int) (l0_0.length : Int) 0
theorem place_All.mono_l : ∀ k, (∀ y0 y1 y2, LeO (place_All.l0 k y0 y1 y2) (place_All.l0 (k + 1) y0 y1 y2))
  | 0 => fun _ _ _ r h => by simp [place_All.l0] at h
  | k + 1 => by
    have ih0 := place_All.mono_l k
    · intro y0 y1 y2
      unfold place_All.l0
      repeat' first
      | (with_reducible exact ih0 _ _ _)
      | (with_reducible exact LeO.refl _)
      | (with_reducible exact LeO.none _)
      | (with_reducible refine LeO.ite ?_ ?_)
      | (with_reducible refine LeO.bind ?_ (fun _ => ?_))
theorem place_All.mono : ∀ a0 a1 a2 k, LeO (place_All.f k a0 a1 a2) (place_All.f (k + 1) a0 a1 a2) := by
  intro a0 a1 a2 k
  have ih0 := place_All.mono_l k
  unfold place_All.f
  repeat' first
      | (with_reducible exact ih0 _ _ _)
      | (with_reducible exact LeO.refl _)
      | (with_reducible exact LeO.none _)
      | (with_reducible refine LeO.ite ?_ ?_)
      | (with_reducible refine LeO.bind ?_ (fun _ => ?_))
/-! ### spliceref01_Get: function 19 -/
def spliceref01_Get.l0 : Nat → List Int → Int → Int → Option (Int)
  | 0, _, _, _ => none
  | k + 1, x0, x3, x4 => if x4 ≥ 0 then (if x4 < (x0.length : Int) then (if 0 ≤ x4 then (spliceref01_Get.l0 k x0 (wrap64 ((wrap64 (256 * x3)) + (wrap64 (rd x0 x4)))) (wrap64 (x4 - 1))) else (none)) else (spliceref01_Get.l0 k x0 (wrap64 (256 * x3)) (wrap64 (x4 - 1)))) else (some ((x3) % 4294967296))
def spliceref01_Get.f (k : Nat) (l0 : List Int) : Option (Int) := spliceref01_Get.l0 k l0 0 3
theorem spliceref01_Get.mono_l : ∀ k, (∀ y0 y1 y2, LeO (spliceref01_Get.l0 k y0 y1 y2) (spliceref01_Get.l0 (k + 1) y0 y1 y2))
  | 0 => fun _ _ _ r h => by simp [spliceref01_Get.l0] at h
  | k + 1 => by
    have ih0 := spliceref01_Get.mono_l k
    · intro y0 y1 y2
      unfold spliceref01_Get.l0
      repeat' first
      | (with_reducible exact ih0 _ _ _)
      | (with_reducible exact LeO.refl _)
      | (with_reducible exact LeO.none _)
      | (with_reducible refine LeO.ite ?_ ?_)
      | (with_reducible refine LeO.bind ?_ (fun _ => ?_))
theorem spliceref01_Get.mono : ∀ a0 k, LeO (spliceref01_Get.f k a0) (spliceref01_Get.f (k + 1) a0) := by
  intro a0 k
  have ih0 := spliceref01_Get.mono_l k
  unfold spliceref01_Get.f
  repeat' first
      | (with_reducible exact ih0 _ _ _)
      | (with_reducible exact LeO.refl _)
      | (with_reducible exact LeO.none _)
      | (with_reducible refine LeO.ite ?_ ?_)
      | (with_reducible refine LeO.bind ?_ (fun _ => ?_))

end Go.Proofs.Ytdnfofhfllnhiaa.Q
