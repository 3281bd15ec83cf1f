-- Written by drv.py, a program of this session, over the kit's print, out of the translation. Not trusted: Lean checks it.
import Derived.Test.YtgaggfekgkedpaaQ0
import Derived.Test.YtgaggfekgkedpaaQF
import Derived.Test.YtgaggfekgkedpaaHfd
namespace Go.Proofs.Ytgaggfekgkedpaa.Q
open Go.RowKit Go.Proofs.YtgaggfekgkedpaaW.PrintWords Go.Proofs.YtgaggfekgkedpaaW.PrintLast Go.Proofs.YtgaggfekgkedpaaW.PrintMore
attribute [local go_sem] max2_int min2_int max_two min_two max_three min_three max_four min_four   -- for this text's walks alone
set_option linter.unusedVariables false
set_option linter.unusedSimpArgs false


/-! ### slices_Equal_int_int: function 22 -/
def slices_Equal_int_int.l0 : Nat → List Int → List Int → Int → Int → Option (Bool)
  | 0, _, _, _, _ => none
  | k + 1, x0, x1, x12, x13 => if x13 < x12 then (if 0 ≤ x13 then (if x13 < (x0.length : Int) then (if x13 < (x1.length : Int) then (if (rd x0 x13) = (rd x1 x13) then (slices_Equal_int_int.l0 k x0 x1 x12 (wrap64 (x13 + 1))) else (some false)) else (none)) else (none)) else (none)) else (some true)
def slices_Equal_int_int.f (k : Nat) (l0 : List Int) (l1 : List Int) : Option (Bool) := if (l0.length : Int) = (l1.length : Int) then (slices_Equal_int_int.l0 k l0 l1 (l0.length : Int) 0) else (some false)
theorem slices_Equal_int_int.mono_l : ∀ k, (∀ y0 y1 y2 y3, LeO (slices_Equal_int_int.l0 k y0 y1 y2 y3) (slices_Equal_int_int.l0 (k + 1) y0 y1 y2 y3))
  | 0 => fun _ _ _ _ r h => by simp [slices_Equal_int_int.l0] at h
  | k + 1 => by
    have ih0 := slices_Equal_int_int.mono_l k
    · intro y0 y1 y2 y3
      unfold slices_Equal_int_int.l0
      repeat' first
      | (with_reducible exact ih0 _ _ _ _)
      | (with_reducible exact LeO.refl _)
      | (with_reducible exact LeO.none _)
      | (with_reducible refine LeO.ite ?_ ?_)
      | (with_reducible refine LeO.bind ?_ (fun _ => ?_))
      | exact ih0 _ _ _ _
      | exact LeO.none _
      | refine LeO.ite ?_ ?_
      | refine LeO.bind ?_ (fun _ => ?_)
theorem slices_Equal_int_int.mono : ∀ a0 a1 k, LeO (slices_Equal_int_int.f k a0 a1) (slices_Equal_int_int.f (k + 1) a0 a1) := by
  intro a0 a1 k
  have ih0 := slices_Equal_int_int.mono_l k
  unfold slices_Equal_int_int.f
  repeat' first
      | (with_reducible exact ih0 _ _ _ _)
      | (with_reducible exact LeO.refl _)
      | (with_reducible exact LeO.none _)
      | (with_reducible refine LeO.ite ?_ ?_)
      | (with_reducible refine LeO.bind ?_ (fun _ => ?_))
      | exact ih0 _ _ _ _
      | exact LeO.none _
      | refine LeO.ite ?_ ?_
      | refine LeO.bind ?_ (fun _ => ?_)
/-! ### slices_Equal_byte_byte: function 23 -/
def slices_Equal_byte_byte.l0 : Nat → List Int → List Int → Int → Int → Option (Bool)
  | 0, _, _, _, _ => none
  | k + 1, x0, x1, x12, x13 => if x13 < x12 then (if 0 ≤ x13 then (if x13 < (x0.length : Int) then (if x13 < (x1.length : Int) then (if (rd x0 x13) = (rd x1 x13) then (slices_Equal_byte_byte.l0 k x0 x1 x12 (wrap64 (x13 + 1))) else (some false)) else (none)) else (none)) else (none)) else (some true)
def slices_Equal_byte_byte.f (k : Nat) (l0 : List Int) (l1 : List Int) : Option (Bool) := if (l0.length : Int) = (l1.length : Int) then (slices_Equal_byte_byte.l0 k l0 l1 (l0.length : Int) 0) else (some false)
theorem slices_Equal_byte_byte.mono_l : ∀ k, (∀ y0 y1 y2 y3, LeO (slices_Equal_byte_byte.l0 k y0 y1 y2 y3) (slices_Equal_byte_byte.l0 (k + 1) y0 y1 y2 y3))
  | 0 => fun _ _ _ _ r h => by simp [slices_Equal_byte_byte.l0] at h
  | k + 1 => by
    have ih0 := slices_Equal_byte_byte.mono_l k
    · intro y0 y1 y2 y3
      unfold slices_Equal_byte_byte.l0
      repeat' first
      | (with_reducible exact ih0 _ _ _ _)
      | (with_reducible exact LeO.refl _)
      | (with_reducible exact LeO.none _)
      | (with_reducible refine LeO.ite ?_ ?_)
      | (with_reducible refine LeO.bind ?_ (fun _ => ?_))
      | exact ih0 _ _ _ _
      | exact LeO.none _
      | refine LeO.ite ?_ ?_
      | refine LeO.bind ?_ (fun _ => ?_)
theorem slices_Equal_byte_byte.mono : ∀ a0 a1 k, LeO (slices_Equal_byte_byte.f k a0 a1) (slices_Equal_byte_byte.f (k + 1) a0 a1) := by
  intro a0 a1 k
  have ih0 := slices_Equal_byte_byte.mono_l k
  unfold slices_Equal_byte_byte.f
  repeat' first
      | (with_reducible exact ih0 _ _ _ _)
      | (with_reducible exact LeO.refl _)
      | (with_reducible exact LeO.none _)
      | (with_reducible refine LeO.ite ?_ ?_)
      | (with_reducible refine LeO.bind ?_ (fun _ => ?_))
      | exact ih0 _ _ _ _
      | exact LeO.none _
      | refine LeO.ite ?_ ?_
      | refine LeO.bind ?_ (fun _ => ?_)
/-! ### cpu_fault: function 24 -/
def cpu_fault.f (a0_0 : Int) (a0_1 : Int) (a0_2 : Int) (a0_3 : Int) (a0_4 : Int) (a0_5 : Int) (a0_6 : Int) (a0_7 : Int) (a0_8 : Int) (a0_9 : Int) (a0_10 : Int) (a0_11 : Int) (a0_12 : Int) (a0_13 : Int) (a0_14 : Int) (a0_15 : Int) (a0_16 : Int) (l0_17 : List Int) (a0_18 : Int) (l0_19 : List Int) (l0_20 : List Int) (l0_21 : List Int) (a0_22 : Bool) (a0_23 : Int) (a0_24 : Int) (a1 : Int) : Option (Int × Int × Int × Int × Int × Int × Int × Int × Int × Int × Int × Int × Int × Int × Int × Int × Int × List Int × Int × List Int × List Int × List Int × Bool × Int × Int) := some (a0_0, a0_1, a0_2, a0_3, a0_4, a0_5, a0_6, a0_7, a0_8, a0_9, a0_10, a0_11, a0_12, a0_13, a0_14, a0_15, a0_16, l0_17, a0_18, l0_19, l0_20, l0_21, true, a0_23, a1)
/-! ### bits_may: function 54 -/
def bits_may.f (a0 : Int) : Option (Bool) := if a0 ≥ 1 then (some (decide (a0 ≤ 32))) else (some false)
/-! ### bits_Sign: function 40 -/
def bits_Sign.f (a0 : Int) (a1 : Int) : Option (Int) := (bits_may.f a1).bind fun t111 => (if t111 = true then (if 0 ≤ (wrap64 (64 - a1)) then (some (shr .i64 (wrap64 (shl .u64 (IntKind.u64.wrap (a0)) (wrap64 (64 - a1)))) (wrap64 (64 - a1)))) else (none)) else (some 0))
/-! ### bits_Cut: function 43 -/
def bits_Cut.f (a0 : Int) (a1 : Int) : Option (Int) := (bits_may.f a1).bind fun t112 => (if t112 = true then (if 0 ≤ a1 then (some ((Go.bits .and .u64 (IntKind.u64.wrap (a0)) (IntKind.u64.wrap ((shl .u64 1 a1) - 1))) % 4294967296)) else (none)) else (some 0))
/-! ### code_register: function 60 -/
def code_register.f (a0 : Int) (a1 : Bool) : Option (Bool) := if a0 = 0 then (some true) else (if a1 = true then (if a0 > 0 then (some (decide (a0 < 16))) else (some false)) else (some false))
/-! ### bits_Fits: function 62 -/
def bits_Fits.f (a0 : Int) (a1 : Int) : Option (Bool) := (bits_may.f a1).bind fun t113 => (if t113 = true then (if 0 ≤ (wrap64 (a1 - 1)) then (if a0 ≥ (shl .i64 (-1) (wrap64 (a1 - 1))) then (some (decide (a0 < (shl .i64 1 (wrap64 (a1 - 1)))))) else (some false)) else (none)) else (some false))
/-! ### code_form_imm: function 61 -/
def code_form_imm.f (a0_0 : Bool) (a0_1 : Bool) (a0_2 : Bool) (a0_3 : Int) (a0_4 : Bool) (a1 : Int) : Option (Bool) := if a0_3 = 0 then (some (a1 == 0)) else (if a0_4 = true then (if a1 ≥ 0 then (if 0 ≤ a0_3 then (some (decide (a1 < (shl .i64 1 a0_3)))) else (none)) else (some false)) else ((bits_Fits.f a1 a0_3).bind fun t115 => (some t115)))
/-! ### code_Right: function 55 -/
def code_Right.j0 : Nat → Bool → Int → Int → Int → Int → Int → Option (Bool)
  | 0, _, _, _, _, _, _ => none
  | k + 1, x11, x117000, x117001, x117002, x117003, x117004 => if x11 = true then (some false) else ((code_forms.f).bind fun t117 => (if 0 ≤ x117000 then (if x117000 < 26 then ((code_register.f x117001 (form_a x117000)).bind fun t119 => (if t119 = true then ((code_register.f x117002 (form_b x117000)).bind fun t120 => (if t120 = true then ((code_register.f x117003 (form_c x117000)).bind fun t121 => (if t121 = true then ((code_form_imm.f (form_a x117000) (form_b x117000) (form_c x117000) (form_w x117000) (form_p x117000) x117004).bind fun t122 => (some t122)) else (some false))) else (some false))) else (some false))) else (none)) else (none)))
def code_Right.f (k : Nat) (a0_0 : Int) (a0_1 : Int) (a0_2 : Int) (a0_3 : Int) (a0_4 : Int) : Option (Bool) := if a0_0 < 0 then (code_Right.j0 k true a0_0 a0_1 a0_2 a0_3 a0_4) else (code_Right.j0 k (decide (a0_0 ≥ 26)) a0_0 a0_1 a0_2 a0_3 a0_4)
theorem code_Right.mono_l : ∀ k, (∀ y0 y1 y2 y3 y4 y5, LeO (code_Right.j0 k y0 y1 y2 y3 y4 y5) (code_Right.j0 (k + 1) y0 y1 y2 y3 y4 y5))
  | 0 => fun _ _ _ _ _ _ r h => by simp [code_Right.j0] at h
  | k + 1 => by
    have ih0 := code_Right.mono_l k
    · intro y0 y1 y2 y3 y4 y5
      unfold code_Right.j0
      repeat' first
      | (with_reducible exact ih0 _ _ _ _ _ _)
      | (with_reducible exact LeO.refl _)
      | (with_reducible exact LeO.none _)
      | (with_reducible refine LeO.ite ?_ ?_)
      | (with_reducible refine LeO.bind ?_ (fun _ => ?_))
      | exact ih0 _ _ _ _ _ _
      | exact LeO.none _
      | refine LeO.ite ?_ ?_
      | refine LeO.bind ?_ (fun _ => ?_)
theorem code_Right.mono : ∀ a0 a1 a2 a3 a4 k, LeO (code_Right.f k a0 a1 a2 a3 a4) (code_Right.f (k + 1) a0 a1 a2 a3 a4) := by
  intro a0 a1 a2 a3 a4 k
  have ih0 := code_Right.mono_l k
  unfold code_Right.f
  repeat' first
      | (with_reducible exact ih0 _ _ _ _ _ _)
      | (with_reducible exact LeO.refl _)
      | (with_reducible exact LeO.none _)
      | (with_reducible refine LeO.ite ?_ ?_)
      | (with_reducible refine LeO.bind ?_ (fun _ => ?_))
      | exact ih0 _ _ _ _ _ _
      | exact LeO.none _
      | refine LeO.ite ?_ ?_
      | refine LeO.bind ?_ (fun _ => ?_)
/-! ### code_Put: function 41 -/
def code_Put.f (k : Nat) (a0_0 : Int) (a0_1 : Int) (a0_2 : Int) (a0_3 : Int) (a0_4 : Int) : Option (Int × Int) := (code_Right.f k a0_0 a0_1 a0_2 a0_3 a0_4).bind fun t124 => (if t124 = true then ((code_forms.f).bind fun t125 => (if 0 ≤ a0_0 then (if a0_0 < 26 then (if (form_w a0_0) > 0 then ((bits_Cut.f a0_4 (form_w a0_0)).bind fun t126 => (some (Go.bits .or .u32 (Go.bits .or .u32 (Go.bits .or .u32 (Go.bits .or .u32 ((((a0_0) % 4294967296) * 16777216) % 4294967296) ((((a0_1) % 4294967296) * 1048576) % 4294967296)) ((((a0_2) % 4294967296) * 65536) % 4294967296)) ((a0_3) % 4294967296)) t126, 0))) else (some (Go.bits .or .u32 (Go.bits .or .u32 (Go.bits .or .u32 ((((a0_0) % 4294967296) * 16777216) % 4294967296) ((((a0_1) % 4294967296) * 1048576) % 4294967296)) ((((a0_2) % 4294967296) * 65536) % 4294967296)) ((a0_3) % 4294967296), 0))) else (none)) else (none))) else (some (0, 3)))
theorem code_Put.mono : ∀ a0 a1 a2 a3 a4 k, LeO (code_Put.f k a0 a1 a2 a3 a4) (code_Put.f (k + 1) a0 a1 a2 a3 a4) := by
  intro a0 a1 a2 a3 a4 k
  unfold code_Put.f
  repeat' first
      | (with_reducible exact code_Right.mono _ _ _ _ _ _)
      | (with_reducible exact LeO.refl _)
      | (with_reducible exact LeO.none _)
      | (with_reducible refine LeO.ite ?_ ?_)
      | (with_reducible refine LeO.bind ?_ (fun _ => ?_))
      | exact code_Right.mono _ _ _ _ _ _
      | exact LeO.none _
      | refine LeO.ite ?_ ?_
      | refine LeO.bind ?_ (fun _ => ?_)
/-! ### code_Get: function 25 -/
def code_Get.j0 : Nat → Int → Int → Int → Int → Int → Int → Bool → Bool → Bool → Int → Bool → Option (Int × Int × Int × Int × Int × Int)
  | 0, _, _, _, _, _, _, _, _, _, _, _ => none
  | k + 1, x0, x129000, x129001, x129002, x129003, x129004, x131000, x131001, x131002, x131003, x131004 => if x131002 = true then ((code_Put.f k x129000 x129001 x129002 (wrap64 (Go.bits .and .u32 x0 15)) x129004).bind fun bt131 => (if bt131.2 = 0 then (if bt131.1 = x0 then (some (x129000, x129001, x129002, wrap64 (Go.bits .and .u32 x0 15), x129004, 0)) else (some (0, 0, 0, 0, 0, 3))) else (some (0, 0, 0, 0, 0, 3)))) else (if x131004 = true then ((code_Put.f k x129000 x129001 x129002 x129003 (wrap64 (Go.bits .and .u32 x0 65535))).bind fun bt133 => (if bt133.2 = 0 then (if bt133.1 = x0 then (some (x129000, x129001, x129002, x129003, wrap64 (Go.bits .and .u32 x0 65535), 0)) else (some (0, 0, 0, 0, 0, 3))) else (some (0, 0, 0, 0, 0, 3)))) else (if x131003 > 0 then ((bits_Sign.f x0 x131003).bind fun t135 => ((code_Put.f k x129000 x129001 x129002 x129003 t135).bind fun bt136 => (if bt136.2 = 0 then (if bt136.1 = x0 then (some (x129000, x129001, x129002, x129003, t135, 0)) else (some (0, 0, 0, 0, 0, 3))) else (some (0, 0, 0, 0, 0, 3))))) else ((code_Put.f k x129000 x129001 x129002 x129003 x129004).bind fun bt138 => (if bt138.2 = 0 then (if bt138.1 = x0 then (some (x129000, x129001, x129002, x129003, x129004, 0)) else (some (0, 0, 0, 0, 0, 3))) else (some (0, 0, 0, 0, 0, 3))))))
def code_Get.f (k : Nat) (a0 : Int) : Option (Int × Int × Int × Int × Int × Int) := if (wrap64 (a0 / 16777216)) ≥ 26 then (some (0, 0, 0, 0, 0, 3)) else ((code_forms.f).bind fun t129 => (if 0 ≤ (wrap64 (a0 / 16777216)) then (if (wrap64 (a0 / 16777216)) < 26 then (if (form_w (wrap64 (a0 / 16777216))) < 24 then (code_Get.j0 k a0 (wrap64 (a0 / 16777216)) (wrap64 (Go.bits .and .u32 (a0 / 1048576) 15)) (wrap64 (Go.bits .and .u32 (a0 / 65536) 15)) 0 0 (form_a (wrap64 (a0 / 16777216))) (form_b (wrap64 (a0 / 16777216))) (form_c (wrap64 (a0 / 16777216))) (form_w (wrap64 (a0 / 16777216))) (form_p (wrap64 (a0 / 16777216)))) else (code_Get.j0 k a0 (wrap64 (a0 / 16777216)) 0 0 0 0 (form_a (wrap64 (a0 / 16777216))) (form_b (wrap64 (a0 / 16777216))) (form_c (wrap64 (a0 / 16777216))) (form_w (wrap64 (a0 / 16777216))) (form_p (wrap64 (a0 / 16777216))))) else (none)) else (none)))
theorem code_Get.mono_l : ∀ k, (∀ y0 y1 y2 y3 y4 y5 y6 y7 y8 y9 y10, LeO (code_Get.j0 k y0 y1 y2 y3 y4 y5 y6 y7 y8 y9 y10) (code_Get.j0 (k + 1) y0 y1 y2 y3 y4 y5 y6 y7 y8 y9 y10))
  | 0 => fun _ _ _ _ _ _ _ _ _ _ _ r h => by simp [code_Get.j0] at h
  | k + 1 => by
    have ih0 := code_Get.mono_l k
    · intro y0 y1 y2 y3 y4 y5 y6 y7 y8 y9 y10
      unfold code_Get.j0
      repeat' first
      | (with_reducible exact ih0 _ _ _ _ _ _ _ _ _ _ _)
      | (with_reducible exact code_Put.mono _ _ _ _ _ _)
      | (with_reducible exact LeO.refl _)
      | (with_reducible exact LeO.none _)
      | (with_reducible refine LeO.ite ?_ ?_)
      | (with_reducible refine LeO.bind ?_ (fun _ => ?_))
      | exact ih0 _ _ _ _ _ _ _ _ _ _ _
      | exact code_Put.mono _ _ _ _ _ _
      | exact LeO.none _
      | refine LeO.ite ?_ ?_
      | refine LeO.bind ?_ (fun _ => ?_)
theorem code_Get.mono : ∀ a0 k, LeO (code_Get.f k a0) (code_Get.f (k + 1) a0) := by
  intro a0 k
  have ih0 := code_Get.mono_l k
  unfold code_Get.f
  repeat' first
      | (with_reducible exact ih0 _ _ _ _ _ _ _ _ _ _ _)
      | (with_reducible exact code_Put.mono _ _ _ _ _ _)
      | (with_reducible exact LeO.refl _)
      | (with_reducible exact LeO.none _)
      | (with_reducible refine LeO.ite ?_ ?_)
      | (with_reducible refine LeO.bind ?_ (fun _ => ?_))
      | exact ih0 _ _ _ _ _ _ _ _ _ _ _
      | exact code_Put.mono _ _ _ _ _ _
      | exact LeO.none _
      | refine LeO.ite ?_ ?_
      | refine LeO.bind ?_ (fun _ => ?_)
/-! ### flow_Kind: function 26 -/
mutual
def flow_Kind.j0 : Nat → Int → Bool → Option (Int)
  | 0, _, _ => none
  | k + 1, x4, x5 => if x5 = true then (some 1) else (if x4 = 22 then (flow_Kind.j1 k x4 (x4 == 22)) else (flow_Kind.j1 k x4 (x4 == 23)))
def flow_Kind.j1 : Nat → Int → Bool → Option (Int)
  | 0, _, _ => none
  | k + 1, x4, x10 => if x10 = true then (some 1) else (if x4 = 15 then (flow_Kind.j2 k x4 (x4 == 15)) else (if x4 = 16 then (flow_Kind.j2 k x4 (x4 == 16)) else (if x4 = 17 then (flow_Kind.j2 k x4 (x4 == 17)) else (flow_Kind.j2 k x4 (x4 == 18)))))
def flow_Kind.j2 : Nat → Int → Bool → Option (Int)
  | 0, _, _ => none
  | k + 1, x4, x13 => if x13 = true then (some 2) else (if x4 = 19 then (some 3) else (if x4 = 20 then (some 4) else (if x4 = 0 then (some 5) else (if x4 = 21 then (some 5) else (if x4 = 25 then (some 5) else (some 0))))))
end
def flow_Kind.f (k : Nat) (a0_0 : Int) (a0_1 : Int) (a0_2 : Int) (a0_3 : Int) (a0_4 : Int) : Option (Int) := if a0_0 = 11 then (flow_Kind.j0 k a0_0 (a0_0 == 11)) else (if a0_0 = 12 then (flow_Kind.j0 k a0_0 (a0_0 == 12)) else (if a0_0 = 13 then (flow_Kind.j0 k a0_0 (a0_0 == 13)) else (flow_Kind.j0 k a0_0 (a0_0 == 14))))
theorem flow_Kind.mono_l : ∀ k, (∀ y0 y1, LeO (flow_Kind.j0 k y0 y1) (flow_Kind.j0 (k + 1) y0 y1)) ∧ (∀ y0 y1, LeO (flow_Kind.j1 k y0 y1) (flow_Kind.j1 (k + 1) y0 y1)) ∧ (∀ y0 y1, LeO (flow_Kind.j2 k y0 y1) (flow_Kind.j2 (k + 1) y0 y1))
  | 0 => ⟨fun _ _ r h => by simp [flow_Kind.j0] at h, fun _ _ r h => by simp [flow_Kind.j1] at h, fun _ _ r h => by simp [flow_Kind.j2] at h⟩
  | k + 1 => by
    obtain ⟨ih0, ih1, ih2⟩ := flow_Kind.mono_l k
    refine ⟨?_, ?_, ?_⟩
    · intro y0 y1
      unfold flow_Kind.j0
      repeat' first
      | (with_reducible exact ih0 _ _)
      | (with_reducible exact ih1 _ _)
      | (with_reducible exact ih2 _ _)
      | (with_reducible exact LeO.refl _)
      | (with_reducible exact LeO.none _)
      | (with_reducible refine LeO.ite ?_ ?_)
      | (with_reducible refine LeO.bind ?_ (fun _ => ?_))
      | exact ih0 _ _
      | exact ih1 _ _
      | exact ih2 _ _
      | exact LeO.none _
      | refine LeO.ite ?_ ?_
      | refine LeO.bind ?_ (fun _ => ?_)
    · intro y0 y1
      unfold flow_Kind.j1
      repeat' first
      | (with_reducible exact ih0 _ _)
      | (with_reducible exact ih1 _ _)
      | (with_reducible exact ih2 _ _)
      | (with_reducible exact LeO.refl _)
      | (with_reducible exact LeO.none _)
      | (with_reducible refine LeO.ite ?_ ?_)
      | (with_reducible refine LeO.bind ?_ (fun _ => ?_))
      | exact ih0 _ _
      | exact ih1 _ _
      | exact ih2 _ _
      | exact LeO.none _
      | refine LeO.ite ?_ ?_
      | refine LeO.bind ?_ (fun _ => ?_)
    · intro y0 y1
      unfold flow_Kind.j2
      repeat' first
      | (with_reducible exact ih0 _ _)
      | (with_reducible exact ih1 _ _)
      | (with_reducible exact ih2 _ _)
      | (with_reducible exact LeO.refl _)
      | (with_reducible exact LeO.none _)
      | (with_reducible refine LeO.ite ?_ ?_)
      | (with_reducible refine LeO.bind ?_ (fun _ => ?_))
      | exact ih0 _ _
      | exact ih1 _ _
      | exact ih2 _ _
      | exact LeO.none _
      | refine LeO.ite ?_ ?_
      | refine LeO.bind ?_ (fun _ => ?_)
theorem flow_Kind.mono : ∀ a0 a1 a2 a3 a4 k, LeO (flow_Kind.f k a0 a1 a2 a3 a4) (flow_Kind.f (k + 1) a0 a1 a2 a3 a4) := by
  intro a0 a1 a2 a3 a4 k
  obtain ⟨ih0, ih1, ih2⟩ := flow_Kind.mono_l k
  unfold flow_Kind.f
  repeat' first
      | (with_reducible exact ih0 _ _)
      | (with_reducible exact ih1 _ _)
      | (with_reducible exact ih2 _ _)
      | (with_reducible exact LeO.refl _)
      | (with_reducible exact LeO.none _)
      | (with_reducible refine LeO.ite ?_ ?_)
      | (with_reducible refine LeO.bind ?_ (fun _ => ?_))
      | exact ih0 _ _
      | exact ih1 _ _
      | exact ih2 _ _
      | exact LeO.none _
      | refine LeO.ite ?_ ?_
      | refine LeO.bind ?_ (fun _ => ?_)
/-! ### alu_less: function 42 -/
def alu_less.f (a0 : Int) (a1 : Int) : Option (Bool) := some (decide ((wrap32 (a0)) < (wrap32 (a1))))
/-! ### alu_Do: function 28 -/
def alu_Do.f (a0_0 : Int) (a0_1 : Int) (a0_2 : Int) (a0_3 : Int) (a0_4 : Int) (a1 : Int) (a2 : Int) : Option (Int) := if a0_0 = 1 then (some ((a1 + a2) % 4294967296)) else (if a0_0 = 2 then (some ((a1 - a2) % 4294967296)) else (if a0_0 = 3 then (some (Go.bits .and .u32 a1 a2)) else (if a0_0 = 4 then (some (Go.bits .or .u32 a1 a2)) else (if a0_0 = 5 then (some (Go.bits .xor .u32 a1 a2)) else (if a0_0 = 6 then ((alu_less.f a1 a2).bind fun t144 => (if t144 = true then (some 1) else (some 0))) else (if a0_0 = 7 then (some ((a1 * a2) % 4294967296)) else (if a0_0 = 8 then ((bits_Cut.f a0_4 32).bind fun t145 => (some ((a1 + t145) % 4294967296))) else (if a0_0 = 9 then ((bits_Cut.f a0_4 16).bind fun t146 => (some ((t146 * 65536) % 4294967296))) else (if a0_0 = 10 then ((bits_Cut.f a0_4 16).bind fun t147 => (some (Go.bits .or .u32 a1 t147))) else (some 0))))))))))
/-! ### store_size: function 58 -/
def store_size.f (a0 : Bool) : Option (Int) := if a0 = true then (some 4) else (some 1)
/-! ### store_place: function 56 -/
def store_place.f (a0_0 : Int) (l0_1 : List Int) (a1 : Int) (a2 : Bool) : Option (Int × Bool) := (store_size.f a2).bind fun t149 => (if (wrap64 ((wrap64 (a1)) - 65536)) ≥ 0 then (if (wrap64 ((wrap64 ((wrap64 (a1)) - 65536)) + t149)) ≤ (l0_1.length : Int) then (if t149 = 0 then (none) else (some (wrap64 ((wrap64 (a1)) - 65536), ((Int.tmod (wrap64 ((wrap64 (a1)) - 65536)) t149) == 0)))) else (some (wrap64 ((wrap64 (a1)) - 65536), false))) else (some (wrap64 ((wrap64 (a1)) - 65536), false)))
/-! ### bits_Get: function 57 -/
def bits_Get.l0 : Nat → List Int → Int → Int → Int → Option (Int)
  | 0, _, _, _, _ => none
  | k + 1, x0, x3, x7, x8 => if x8 < x7 then (if 0 ≤ x8 then (if x8 < (x0.length : Int) then (if 0 ≤ (wrap64 (8 * x8)) then (bits_Get.l0 k x0 (Go.bits .or .u32 x3 (shl .u32 ((rd x0 x8) % 4294967296) (wrap64 (8 * x8)))) x7 (wrap64 (x8 + 1))) else (none)) else (none)) else (none)) else (some x3)
def bits_Get.f (k : Nat) (l0 : List Int) : Option (Int) := bits_Get.l0 k l0 0 (mn 4 (l0.length : Int)) 0
theorem bits_Get.mono_l : ∀ k, (∀ y0 y1 y2 y3, LeO (bits_Get.l0 k y0 y1 y2 y3) (bits_Get.l0 (k + 1) y0 y1 y2 y3))
  | 0 => fun _ _ _ _ r h => by simp [bits_Get.l0] at h
  | k + 1 => by
    have ih0 := bits_Get.mono_l k
    · intro y0 y1 y2 y3
      unfold bits_Get.l0
      repeat' first
      | (with_reducible exact ih0 _ _ _ _)
      | (with_reducible exact LeO.refl _)
      | (with_reducible exact LeO.none _)
      | (with_reducible refine LeO.ite ?_ ?_)
      | (with_reducible refine LeO.bind ?_ (fun _ => ?_))
      | exact ih0 _ _ _ _
      | exact LeO.none _
      | refine LeO.ite ?_ ?_
      | refine LeO.bind ?_ (fun _ => ?_)
theorem bits_Get.mono : ∀ a0 k, LeO (bits_Get.f k a0) (bits_Get.f (k + 1) a0) := by
  intro a0 k
  have ih0 := bits_Get.mono_l k
  unfold bits_Get.f
  repeat' first
      | (with_reducible exact ih0 _ _ _ _)
      | (with_reducible exact LeO.refl _)
      | (with_reducible exact LeO.none _)
      | (with_reducible refine LeO.ite ?_ ?_)
      | (with_reducible refine LeO.bind ?_ (fun _ => ?_))
      | exact ih0 _ _ _ _
      | exact LeO.none _
      | refine LeO.ite ?_ ?_
      | refine LeO.bind ?_ (fun _ => ?_)
/-! ### store_Load: function 44 -/
def store_Load.f (k : Nat) (a0_0 : Int) (l0_1 : List Int) (a1 : Int) (a2 : Bool) : Option (Int × Bool) := (store_place.f a0_0 l0_1 a1 a2).bind fun bt152 => (if bt152.2 = true then ((store_size.f a2).bind fun t154 => (if 0 ≤ bt152.1 then (if bt152.1 ≤ (wrap64 (bt152.1 + t154)) then (if (wrap64 (bt152.1 + t154)) ≤ (l0_1.length : Int) then ((bits_Get.f k ((l0_1.take ((wrap64 (bt152.1 + t154)) : Int).toNat).drop (bt152.1 : Int).toNat)).bind fun t156 => (some (t156, true))) else (none)) else (none)) else (none))) else (some (0, false)))
theorem store_Load.mono : ∀ a0 a1 a2 a3 k, LeO (store_Load.f k a0 a1 a2 a3) (store_Load.f (k + 1) a0 a1 a2 a3) := by
  intro a0 a1 a2 a3 k
  unfold store_Load.f
  repeat' first
      | (with_reducible exact bits_Get.mono _ _)
      | (with_reducible exact LeO.refl _)
      | (with_reducible exact LeO.none _)
      | (with_reducible refine LeO.ite ?_ ?_)
      | (with_reducible refine LeO.bind ?_ (fun _ => ?_))
      | exact bits_Get.mono _ _
      | exact LeO.none _
      | refine LeO.ite ?_ ?_
      | refine LeO.bind ?_ (fun _ => ?_)
/-! ### bits_Put: function 59 -/
def bits_Put.f (a0 : Int) : Option (Int × Int × Int × Int) := some ((a0) % 256, (a0 / 256) % 256, (a0 / 65536) % 256, (a0 / 16777216) % 256)
/-! ### flow_Flip: function 48 -/
def flow_Flip.j0 : Nat → Int → Int → Bool → Option (Int)
  | 0, _, _, _ => none
  | k + 1, x0, x3, x4 => if x4 = true then (some (wrap64 (x0 + 1))) else (if x3 = 16 then (some (wrap64 (x0 - 1))) else (if x3 = 18 then (some (wrap64 (x0 - 1))) else (some (-1))))
def flow_Flip.f (k : Nat) (a0 : Int) : Option (Int) := if a0 = 15 then (flow_Flip.j0 k a0 a0 (a0 == 15)) else (flow_Flip.j0 k a0 a0 (a0 == 17))
theorem flow_Flip.mono_l : ∀ k, (∀ y0 y1 y2, LeO (flow_Flip.j0 k y0 y1 y2) (flow_Flip.j0 (k + 1) y0 y1 y2))
  | 0 => fun _ _ _ r h => by simp [flow_Flip.j0] at h
  | k + 1 => by
    have ih0 := flow_Flip.mono_l k
    · intro y0 y1 y2
      unfold flow_Flip.j0
      repeat' first
      | (with_reducible exact ih0 _ _ _)
      | (with_reducible exact LeO.refl _)
      | (with_reducible exact LeO.none _)
      | (with_reducible refine LeO.ite ?_ ?_)
      | (with_reducible refine LeO.bind ?_ (fun _ => ?_))
      | exact ih0 _ _ _
      | exact LeO.none _
      | refine LeO.ite ?_ ?_
      | refine LeO.bind ?_ (fun _ => ?_)
theorem flow_Flip.mono : ∀ a0 k, LeO (flow_Flip.f k a0) (flow_Flip.f (k + 1) a0) := by
  intro a0 k
  have ih0 := flow_Flip.mono_l k
  unfold flow_Flip.f
  repeat' first
      | (with_reducible exact ih0 _ _ _)
      | (with_reducible exact LeO.refl _)
      | (with_reducible exact LeO.none _)
      | (with_reducible refine LeO.ite ?_ ?_)
      | (with_reducible refine LeO.bind ?_ (fun _ => ?_))
      | exact ih0 _ _ _
      | exact LeO.none _
      | refine LeO.ite ?_ ?_
      | refine LeO.bind ?_ (fun _ => ?_)
/-! ### alu_Taken: function 49 -/
def alu_Taken.f (a0 : Int) (a1 : Int) (a2 : Int) : Option (Bool) := if a0 = 15 then (some (a1 == a2)) else (if a0 = 16 then (some (a1 != a2)) else (if a0 = 17 then ((alu_less.f a1 a2).bind fun t173 => (some t173)) else (if a0 = 18 then ((alu_less.f a1 a2).bind fun t174 => (some (!t174))) else (some false))))
/-! ### spliceref01_Same: function 16 -/
def spliceref01_Same.l0 : Nat → List Int → List Int → Int → Option (Bool)
  | 0, _, _, _ => none
  | k + 1, x0, x1, x5 => if x5 < (x0.length : Int) then (if 0 ≤ x5 then (if x5 < (x1.length : Int) then (if (rd x0 x5) = (rd x1 x5) then (spliceref01_Same.l0 k x0 x1 (wrap64 (x5 + 1))) else (some false)) else (none)) else (none)) else (some true)
def spliceref01_Same.f (k : Nat) (l0 : List Int) (l1 : List Int) : Option (Bool) := if (l0.length : Int) = (l1.length : Int) then (spliceref01_Same.l0 k l0 l1 0) else (some false)
theorem spliceref01_Same.mono_l : ∀ k, (∀ y0 y1 y2, LeO (spliceref01_Same.l0 k y0 y1 y2) (spliceref01_Same.l0 (k + 1) y0 y1 y2))
  | 0 => fun _ _ _ r h => by simp [spliceref01_Same.l0] at h
  | k + 1 => by
    have ih0 := spliceref01_Same.mono_l k
    · intro y0 y1 y2
      unfold spliceref01_Same.l0
      repeat' first
      | (with_reducible exact ih0 _ _ _)
      | (with_reducible exact LeO.refl _)
      | (with_reducible exact LeO.none _)
      | (with_reducible refine LeO.ite ?_ ?_)
      | (with_reducible refine LeO.bind ?_ (fun _ => ?_))
      | exact ih0 _ _ _
      | exact LeO.none _
      | refine LeO.ite ?_ ?_
      | refine LeO.bind ?_ (fun _ => ?_)
theorem spliceref01_Same.mono : ∀ a0 a1 k, LeO (spliceref01_Same.f k a0 a1) (spliceref01_Same.f (k + 1) a0 a1) := by
  intro a0 a1 k
  have ih0 := spliceref01_Same.mono_l k
  unfold spliceref01_Same.f
  repeat' first
      | (with_reducible exact ih0 _ _ _)
      | (with_reducible exact LeO.refl _)
      | (with_reducible exact LeO.none _)
      | (with_reducible refine LeO.ite ?_ ?_)
      | (with_reducible refine LeO.bind ?_ (fun _ => ?_))
      | exact ih0 _ _ _
      | exact LeO.none _
      | refine LeO.ite ?_ ?_
      | refine LeO.bind ?_ (fun _ => ?_)
/-! ### spliceref05_Same: function 15 -/
def spliceref05_Same.f (k : Nat) (a0_0 : Int) (l0_1 : List Int) (a1_0 : Int) (l1_1 : List Int) : Option (Bool) := if a0_0 = a1_0 then ((spliceref01_Same.f k l0_1 l1_1).bind fun t267 => (some t267)) else (some false)
theorem spliceref05_Same.mono : ∀ a0 a1 a2 a3 k, LeO (spliceref05_Same.f k a0 a1 a2 a3) (spliceref05_Same.f (k + 1) a0 a1 a2 a3) := by
  intro a0 a1 a2 a3 k
  unfold spliceref05_Same.f
  repeat' first
      | (with_reducible exact spliceref01_Same.mono _ _ _)
      | (with_reducible exact LeO.refl _)
      | (with_reducible exact LeO.none _)
      | (with_reducible refine LeO.ite ?_ ?_)
      | (with_reducible refine LeO.bind ?_ (fun _ => ?_))
      | exact spliceref01_Same.mono _ _ _
      | exact LeO.none _
      | refine LeO.ite ?_ ?_
      | refine LeO.bind ?_ (fun _ => ?_)
/-! ### spliceref03_Ints: function 21 -/
def spliceref03_Ints.l0 : Nat → List Int → List Int → Int → Option (Bool)
  | 0, _, _, _ => none
  | k + 1, x0, x1, x5 => if x5 < (x0.length : Int) then (if 0 ≤ x5 then (if x5 < (x1.length : Int) then (if (rd x0 x5) = (rd x1 x5) then (spliceref03_Ints.l0 k x0 x1 (wrap64 (x5 + 1))) else (some false)) else (none)) else (none)) else (some true)
def spliceref03_Ints.f (k : Nat) (l0 : List Int) (l1 : List Int) : Option (Bool) := if (l0.length : Int) = (l1.length : Int) then (spliceref03_Ints.l0 k l0 l1 0) else (some false)
theorem spliceref03_Ints.mono_l : ∀ k, (∀ y0 y1 y2, LeO (spliceref03_Ints.l0 k y0 y1 y2) (spliceref03_Ints.l0 (k + 1) y0 y1 y2))
  | 0 => fun _ _ _ r h => by simp [spliceref03_Ints.l0] at h
  | k + 1 => by
    have ih0 := spliceref03_Ints.mono_l k
    · intro y0 y1 y2
      unfold spliceref03_Ints.l0
      repeat' first
      | (with_reducible exact ih0 _ _ _)
      | (with_reducible exact LeO.refl _)
      | (with_reducible exact LeO.none _)
      | (with_reducible refine LeO.ite ?_ ?_)
      | (with_reducible refine LeO.bind ?_ (fun _ => ?_))
      | exact ih0 _ _ _
      | exact LeO.none _
      | refine LeO.ite ?_ ?_
      | refine LeO.bind ?_ (fun _ => ?_)
theorem spliceref03_Ints.mono : ∀ a0 a1 k, LeO (spliceref03_Ints.f k a0 a1) (spliceref03_Ints.f (k + 1) a0 a1) := by
  intro a0 a1 k
  have ih0 := spliceref03_Ints.mono_l k
  unfold spliceref03_Ints.f
  repeat' first
      | (with_reducible exact ih0 _ _ _)
      | (with_reducible exact LeO.refl _)
      | (with_reducible exact LeO.none _)
      | (with_reducible refine LeO.ite ?_ ?_)
      | (with_reducible refine LeO.bind ?_ (fun _ => ?_))
      | exact ih0 _ _ _
      | exact LeO.none _
      | refine LeO.ite ?_ ?_
      | refine LeO.bind ?_ (fun _ => ?_)
/-! ### spliceref06_New: function 11 -/
def spliceref06_New.l0 : Nat → List Int → List Int → Int → List Int → Int → List Int → Int → Int → Option (Int × Int × Int × Int × Int × Int × Int × Int × Int × Int × Int × Int × Int × Int × Int × Int × Int × List Int × Int × List Int × List Int × List Int × Bool × Int × Int)
  | 0, _, _, _, _, _, _, _, _ => none
  | k + 1, x1, x5, x6, x273000, x273001, x273002, x273003, x273004 => if x6 < x273004 then (if x5.length < 140737488355328 then (spliceref06_New.l0 k x1 (x5 ++ [0]) (wrap64 (x6 + 1)) x273000 x273001 x273002 x273003 x273004) else (none)) else ((some (([] : List Int) : List Int)).bind fun y283 => (if y283.length + x1.length < 140737488355328 then (some (x273001, 0, 0, 0, 0, 0, 0, 0, 0, 0, 0, 0, 0, 0, 0, 0, 0, ([] : List Int), x273003, x5, (y283 ++ x1), ([] : List Int), false, 0, 0)) else (none)))
def spliceref06_New.f (k : Nat) (l0_0 : List Int) (a0_1 : Int) (l0_2 : List Int) (a0_3 : Int) (a0_4 : Int) (l1 : List Int) : Option (Int × Int × Int × Int × Int × Int × Int × Int × Int × Int × Int × Int × Int × Int × Int × Int × Int × List Int × Int × List Int × List Int × List Int × Bool × Int × Int) := (some (([] : List Int) : List Int)).bind fun y274 => (if y274.length + l0_2.length < 140737488355328 then (spliceref06_New.l0 k l1 (y274 ++ l0_2) 0 l0_0 a0_1 l0_2 a0_3 a0_4) else (none))
theorem spliceref06_New.mono_l : ∀ k, (∀ y0 y1 y2 y3 y4 y5 y6 y7, LeO (spliceref06_New.l0 k y0 y1 y2 y3 y4 y5 y6 y7) (spliceref06_New.l0 (k + 1) y0 y1 y2 y3 y4 y5 y6 y7))
  | 0 => fun _ _ _ _ _ _ _ _ r h => by simp [spliceref06_New.l0] at h
  | k + 1 => by
    have ih0 := spliceref06_New.mono_l k
    · intro y0 y1 y2 y3 y4 y5 y6 y7
      unfold spliceref06_New.l0
      repeat' first
      | (with_reducible exact ih0 _ _ _ _ _ _ _ _)
      | (with_reducible exact LeO.refl _)
      | (with_reducible exact LeO.none _)
      | (with_reducible refine LeO.ite ?_ ?_)
      | (with_reducible refine LeO.bind ?_ (fun _ => ?_))
      | exact ih0 _ _ _ _ _ _ _ _
      | exact LeO.none _
      | refine LeO.ite ?_ ?_
      | refine LeO.bind ?_ (fun _ => ?_)
theorem spliceref06_New.mono : ∀ a0 a1 a2 a3 a4 a5 k, LeO (spliceref06_New.f k a0 a1 a2 a3 a4 a5) (spliceref06_New.f (k + 1) a0 a1 a2 a3 a4 a5) := by
  intro a0 a1 a2 a3 a4 a5 k
  have ih0 := spliceref06_New.mono_l k
  unfold spliceref06_New.f
  repeat' first
      | (with_reducible exact ih0 _ _ _ _ _ _ _ _)
      | (with_reducible exact LeO.refl _)
      | (with_reducible exact LeO.none _)
      | (with_reducible refine LeO.ite ?_ ?_)
      | (with_reducible refine LeO.bind ?_ (fun _ => ?_))
      | exact ih0 _ _ _ _ _ _ _ _
      | exact LeO.none _
      | refine LeO.ite ?_ ?_
      | refine LeO.bind ?_ (fun _ => ?_)
/-! ### spliceref02_far: function 32 -/
def spliceref02_far.f (a0 : Int) : Option (Bool) := if a0 = 19 then (some true) else (some (a0 == 20))
/-! ### spliceref01_Power: function 50 -/
def spliceref01_Power.l0 : Nat → Int → Int → Int → Option (Int)
  | 0, _, _, _ => none
  | k + 1, x0, x3, x4 => if x4 < x0 then (spliceref01_Power.l0 k x0 (wrap64 (2 * x3)) (wrap64 (x4 + 1))) else (some x3)
def spliceref01_Power.f (k : Nat) (a0 : Int) : Option (Int) := spliceref01_Power.l0 k a0 1 0
theorem spliceref01_Power.mono_l : ∀ k, (∀ y0 y1 y2, LeO (spliceref01_Power.l0 k y0 y1 y2) (spliceref01_Power.l0 (k + 1) y0 y1 y2))
  | 0 => fun _ _ _ r h => by simp [spliceref01_Power.l0] at h
  | k + 1 => by
    have ih0 := spliceref01_Power.mono_l k
    · intro y0 y1 y2
      unfold spliceref01_Power.l0
      repeat' first
      | (with_reducible exact ih0 _ _ _)
      | (with_reducible exact LeO.refl _)
      | (with_reducible exact LeO.none _)
      | (with_reducible refine LeO.ite ?_ ?_)
      | (with_reducible refine LeO.bind ?_ (fun _ => ?_))
      | exact ih0 _ _ _
      | exact LeO.none _
      | refine LeO.ite ?_ ?_
      | refine LeO.bind ?_ (fun _ => ?_)
theorem spliceref01_Power.mono : ∀ a0 k, LeO (spliceref01_Power.f k a0) (spliceref01_Power.f (k + 1) a0) := by
  intro a0 k
  have ih0 := spliceref01_Power.mono_l k
  unfold spliceref01_Power.f
  repeat' first
      | (with_reducible exact ih0 _ _ _)
      | (with_reducible exact LeO.refl _)
      | (with_reducible exact LeO.none _)
      | (with_reducible refine LeO.ite ?_ ?_)
      | (with_reducible refine LeO.bind ?_ (fun _ => ?_))
      | exact ih0 _ _ _
      | exact LeO.none _
      | refine LeO.ite ?_ ?_
      | refine LeO.bind ?_ (fun _ => ?_)
/-! ### spliceref01_Sign: function 33 -/
def spliceref01_Sign.j0 : Nat → Int → Int → Bool → Option (Int)
  | 0, _, _, _ => none
  | k + 1, x0, x1, x11 => if x11 = true then (some 0) else ((spliceref01_Power.f k x1).bind fun t291 => (if t291 = 0 then (none) else ((spliceref01_Power.f k x1).bind fun t292 => (if (Int.tmod (wrap64 (x0)) t291) ≥ (wrap64 (Int.tdiv t292 2)) then ((spliceref01_Power.f k x1).bind fun t293 => (some (wrap64 ((Int.tmod (wrap64 (x0)) t291) - t293)))) else (some (Int.tmod (wrap64 (x0)) t291))))))
def spliceref01_Sign.f (k : Nat) (a0 : Int) (a1 : Int) : Option (Int) := if a1 < 1 then (spliceref01_Sign.j0 k a0 a1 true) else (spliceref01_Sign.j0 k a0 a1 (decide (a1 > 32)))
theorem spliceref01_Sign.mono_l : ∀ k, (∀ y0 y1 y2, LeO (spliceref01_Sign.j0 k y0 y1 y2) (spliceref01_Sign.j0 (k + 1) y0 y1 y2))
  | 0 => fun _ _ _ r h => by simp [spliceref01_Sign.j0] at h
  | k + 1 => by
    have ih0 := spliceref01_Sign.mono_l k
    · intro y0 y1 y2
      unfold spliceref01_Sign.j0
      repeat' first
      | (with_reducible exact ih0 _ _ _)
      | (with_reducible exact spliceref01_Power.mono _ _)
      | (with_reducible exact LeO.refl _)
      | (with_reducible exact LeO.none _)
      | (with_reducible refine LeO.ite ?_ ?_)
      | (with_reducible refine LeO.bind ?_ (fun _ => ?_))
      | exact ih0 _ _ _
      | exact spliceref01_Power.mono _ _
      | exact LeO.none _
      | refine LeO.ite ?_ ?_
      | refine LeO.bind ?_ (fun _ => ?_)
theorem spliceref01_Sign.mono : ∀ a0 a1 k, LeO (spliceref01_Sign.f k a0 a1) (spliceref01_Sign.f (k + 1) a0 a1) := by
  intro a0 a1 k
  have ih0 := spliceref01_Sign.mono_l k
  unfold spliceref01_Sign.f
  repeat' first
      | (with_reducible exact ih0 _ _ _)
      | (with_reducible exact spliceref01_Power.mono _ _)
      | (with_reducible exact LeO.refl _)
      | (with_reducible exact LeO.none _)
      | (with_reducible refine LeO.ite ?_ ?_)
      | (with_reducible refine LeO.bind ?_ (fun _ => ?_))
      | exact ih0 _ _ _
      | exact spliceref01_Power.mono _ _
      | exact LeO.none _
      | refine LeO.ite ?_ ?_
      | refine LeO.bind ?_ (fun _ => ?_)
/-! ### spliceref02_three: function 34 -/
def spliceref02_three.f (a0 : Int) : Option (Bool) := if a0 ≥ 1 then (some (decide (a0 ≤ 7))) else (some false)
/-! ### spliceref02_near: function 35 -/
def spliceref02_near.f (a0 : Int) : Option (Bool) := if a0 = 8 then (some true) else (if a0 ≥ 11 then (some (decide (a0 ≤ 14))) else (some false))
/-! ### spliceref02_branch: function 36 -/
def spliceref02_branch.f (a0 : Int) : Option (Bool) := if a0 ≥ 15 then (some (decide (a0 ≤ 18))) else (some false)
/-! ### spliceref02_reg: function 51 -/
def spliceref02_reg.f (a0 : Int) : Option (Bool) := if a0 ≥ 0 then (some (decide (a0 ≤ 15))) else (some false)
/-! ### spliceref02_one: function 52 -/
def spliceref02_one.f (a0 : Int) : Option (Bool) := if a0 = 0 then (some true) else (if a0 = 22 then (some true) else (some (a0 == 23)))
/-! ### spliceref02_Right: function 37 -/
def spliceref02_Right.f (a0_0 : Int) (a0_1 : Int) (a0_2 : Int) (a0_3 : Int) (a0_4 : Int) : Option (Bool) := (spliceref02_three.f a0_0).bind fun t295 => (if t295 = true then ((spliceref02_reg.f a0_1).bind fun t296 => (if t296 = true then ((spliceref02_reg.f a0_2).bind fun t297 => (if t297 = true then ((spliceref02_reg.f a0_3).bind fun t298 => (if t298 = true then (some (a0_4 == 0)) else (some false))) else (some false))) else (some false))) else (if a0_3 = 0 then ((spliceref02_near.f a0_0).bind fun t299 => (if t299 = true then ((spliceref02_reg.f a0_1).bind fun t300 => (if t300 = true then ((spliceref02_reg.f a0_2).bind fun t301 => (if t301 = true then (if a0_4 ≥ (-32768) then (some (decide (a0_4 ≤ 32767))) else (some false)) else (some false))) else (some false))) else (if a0_0 = 10 then ((spliceref02_reg.f a0_1).bind fun t302 => (if t302 = true then ((spliceref02_reg.f a0_2).bind fun t303 => (if t303 = true then (if a0_4 ≥ 0 then (some (decide (a0_4 ≤ 65535))) else (some false)) else (some false))) else (some false))) else ((spliceref02_branch.f a0_0).bind fun t304 => (if t304 = true then ((spliceref02_reg.f a0_1).bind fun t305 => (if t305 = true then ((spliceref02_reg.f a0_2).bind fun t306 => (if t306 = true then (if a0_4 ≥ (-128) then (some (decide (a0_4 ≤ 127))) else (some false)) else (some false))) else (some false))) else (if a0_2 = 0 then (if a0_0 = 9 then ((spliceref02_reg.f a0_1).bind fun t307 => (if t307 = true then (if a0_4 ≥ 0 then (some (decide (a0_4 ≤ 65535))) else (some false)) else (some false))) else ((spliceref02_one.f a0_0).bind fun t308 => (if t308 = true then ((spliceref02_reg.f a0_1).bind fun t309 => (if t309 = true then (some (a0_4 == 0)) else (some false))) else ((spliceref02_far.f a0_0).bind fun t310 => (if t310 = true then (if a0_1 = 0 then (if a0_4 ≥ (-8388608) then (some (decide (a0_4 ≤ 8388607))) else (some false)) else (some false)) else (if a0_0 = 21 then (if a0_1 = 0 then (some (a0_4 == 0)) else (some false)) else (if a0_0 = 24 then (if a0_1 = 0 then (some (a0_4 == 0)) else (some false)) else (if a0_0 = 25 then (if a0_1 = 0 then (some (a0_4 == 0)) else (some false)) else (some false))))))))) else (some false))))))) else (some false)))
/-! ### spliceref01_Mod: function 53 -/
def spliceref01_Mod.f (a0 : Int) (a1 : Int) : Option (Int) := if a1 = 0 then (none) else (if (Int.tmod a0 a1) < 0 then (some (wrap64 ((Int.tmod a0 a1) + a1))) else (some (Int.tmod a0 a1)))
/-! ### spliceref01_Cut: function 38 -/
def spliceref01_Cut.j0 : Nat → Int → Int → Bool → Option (Int)
  | 0, _, _, _ => none
  | k + 1, x0, x1, x10 => if x10 = true then (some 0) else ((spliceref01_Power.f k x1).bind fun t312 => ((spliceref01_Mod.f x0 t312).bind fun t313 => (some ((t313) % 4294967296))))
def spliceref01_Cut.f (k : Nat) (a0 : Int) (a1 : Int) : Option (Int) := if a1 < 1 then (spliceref01_Cut.j0 k a0 a1 true) else (spliceref01_Cut.j0 k a0 a1 (decide (a1 > 32)))
theorem spliceref01_Cut.mono_l : ∀ k, (∀ y0 y1 y2, LeO (spliceref01_Cut.j0 k y0 y1 y2) (spliceref01_Cut.j0 (k + 1) y0 y1 y2))
  | 0 => fun _ _ _ r h => by simp [spliceref01_Cut.j0] at h
  | k + 1 => by
    have ih0 := spliceref01_Cut.mono_l k
    · intro y0 y1 y2
      unfold spliceref01_Cut.j0
      repeat' first
      | (with_reducible exact ih0 _ _ _)
      | (with_reducible exact spliceref01_Power.mono _ _)
      | (with_reducible exact LeO.refl _)
      | (with_reducible exact LeO.none _)
      | (with_reducible refine LeO.ite ?_ ?_)
      | (with_reducible refine LeO.bind ?_ (fun _ => ?_))
      | exact ih0 _ _ _
      | exact spliceref01_Power.mono _ _
      | exact LeO.none _
      | refine LeO.ite ?_ ?_
      | refine LeO.bind ?_ (fun _ => ?_)
theorem spliceref01_Cut.mono : ∀ a0 a1 k, LeO (spliceref01_Cut.f k a0 a1) (spliceref01_Cut.f (k + 1) a0 a1) := by
  intro a0 a1 k
  have ih0 := spliceref01_Cut.mono_l k
  unfold spliceref01_Cut.f
  repeat' first
      | (with_reducible exact ih0 _ _ _)
      | (with_reducible exact spliceref01_Power.mono _ _)
      | (with_reducible exact LeO.refl _)
      | (with_reducible exact LeO.none _)
      | (with_reducible refine LeO.ite ?_ ?_)
      | (with_reducible refine LeO.bind ?_ (fun _ => ?_))
      | exact ih0 _ _ _
      | exact spliceref01_Power.mono _ _
      | exact LeO.none _
      | refine LeO.ite ?_ ?_
      | refine LeO.bind ?_ (fun _ => ?_)
/-! ### spliceref02_Put: function 17 -/
def spliceref02_Put.j0 : Nat → Int → Int → Int → Int → Int → Int → Option (Int)
  | 0, _, _, _, _, _, _ => none
  | k + 1, x3, x315000, x315001, x315002, x315003, x315004 => (spliceref02_far.f x315000).bind fun t316 => (if t316 = true then ((spliceref01_Cut.f k x315004 24).bind fun t317 => (some ((((wrap64 ((wrap64 ((wrap64 ((wrap64 (x315000 * 16777216)) + (wrap64 (x315001 * 1048576)))) + (wrap64 (x315002 * 65536)))) + x315003)) % 4294967296) + t317) % 4294967296))) else ((spliceref01_Cut.f k x315004 x3).bind fun t318 => (some ((((wrap64 ((wrap64 ((wrap64 ((wrap64 (x315000 * 16777216)) + (wrap64 (x315001 * 1048576)))) + (wrap64 (x315002 * 65536)))) + x315003)) % 4294967296) + t318) % 4294967296))))
def spliceref02_Put.f (k : Nat) (a0_0 : Int) (a0_1 : Int) (a0_2 : Int) (a0_3 : Int) (a0_4 : Int) : Option (Int) := (spliceref02_branch.f a0_0).bind fun t315 => (if t315 = true then (spliceref02_Put.j0 k 8 a0_0 a0_1 a0_2 a0_3 a0_4) else (spliceref02_Put.j0 k 16 a0_0 a0_1 a0_2 a0_3 a0_4))
theorem spliceref02_Put.mono_l : ∀ k, (∀ y0 y1 y2 y3 y4 y5, LeO (spliceref02_Put.j0 k y0 y1 y2 y3 y4 y5) (spliceref02_Put.j0 (k + 1) y0 y1 y2 y3 y4 y5))
  | 0 => fun _ _ _ _ _ _ r h => by simp [spliceref02_Put.j0] at h
  | k + 1 => by
    have ih0 := spliceref02_Put.mono_l k
    · intro y0 y1 y2 y3 y4 y5
      unfold spliceref02_Put.j0
      repeat' first
      | (with_reducible exact ih0 _ _ _ _ _ _)
      | (with_reducible exact spliceref01_Cut.mono _ _ _)
      | (with_reducible exact LeO.refl _)
      | (with_reducible exact LeO.none _)
      | (with_reducible refine LeO.ite ?_ ?_)
      | (with_reducible refine LeO.bind ?_ (fun _ => ?_))
      | exact ih0 _ _ _ _ _ _
      | exact spliceref01_Cut.mono _ _ _
      | exact LeO.none _
      | refine LeO.ite ?_ ?_
      | refine LeO.bind ?_ (fun _ => ?_)
theorem spliceref02_Put.mono : ∀ a0 a1 a2 a3 a4 k, LeO (spliceref02_Put.f k a0 a1 a2 a3 a4) (spliceref02_Put.f (k + 1) a0 a1 a2 a3 a4) := by
  intro a0 a1 a2 a3 a4 k
  have ih0 := spliceref02_Put.mono_l k
  unfold spliceref02_Put.f
  repeat' first
      | (with_reducible exact ih0 _ _ _ _ _ _)
      | (with_reducible exact spliceref01_Cut.mono _ _ _)
      | (with_reducible exact LeO.refl _)
      | (with_reducible exact LeO.none _)
      | (with_reducible refine LeO.ite ?_ ?_)
      | (with_reducible refine LeO.bind ?_ (fun _ => ?_))
      | exact ih0 _ _ _ _ _ _
      | exact spliceref01_Cut.mono _ _ _
      | exact LeO.none _
      | refine LeO.ite ?_ ?_
      | refine LeO.bind ?_ (fun _ => ?_)
/-! ### spliceref01_Words: function 18 -/
def spliceref01_Words.l0 : Nat → List Int → List Int → Int → Option (Bool)
  | 0, _, _, _ => none
  | k + 1, x0, x1, x5 => if x5 < (x0.length : Int) then (if 0 ≤ x5 then (if x5 < (x1.length : Int) then (if (rd x0 x5) = (rd x1 x5) then (spliceref01_Words.l0 k x0 x1 (wrap64 (x5 + 1))) else (some false)) else (none)) else (none)) else (some true)
def spliceref01_Words.f (k : Nat) (l0 : List Int) (l1 : List Int) : Option (Bool) := if (l0.length : Int) = (l1.length : Int) then (spliceref01_Words.l0 k l0 l1 0) else (some false)
theorem spliceref01_Words.mono_l : ∀ k, (∀ y0 y1 y2, LeO (spliceref01_Words.l0 k y0 y1 y2) (spliceref01_Words.l0 (k + 1) y0 y1 y2))
  | 0 => fun _ _ _ r h => by simp [spliceref01_Words.l0] at h
  | k + 1 => by
    have ih0 := spliceref01_Words.mono_l k
    · intro y0 y1 y2
      unfold spliceref01_Words.l0
      repeat' first
      | (with_reducible exact ih0 _ _ _)
      | (with_reducible exact LeO.refl _)
      | (with_reducible exact LeO.none _)
      | (with_reducible refine LeO.ite ?_ ?_)
      | (with_reducible refine LeO.bind ?_ (fun _ => ?_))
      | exact ih0 _ _ _
      | exact LeO.none _
      | refine LeO.ite ?_ ?_
      | refine LeO.bind ?_ (fun _ => ?_)
theorem spliceref01_Words.mono : ∀ a0 a1 k, LeO (spliceref01_Words.f k a0 a1) (spliceref01_Words.f (k + 1) a0 a1) := by
  intro a0 a1 k
  have ih0 := spliceref01_Words.mono_l k
  unfold spliceref01_Words.f
  repeat' first
      | (with_reducible exact ih0 _ _ _)
      | (with_reducible exact LeO.refl _)
      | (with_reducible exact LeO.none _)
      | (with_reducible refine LeO.ite ?_ ?_)
      | (with_reducible refine LeO.bind ?_ (fun _ => ?_))
      | exact ih0 _ _ _
      | exact LeO.none _
      | refine LeO.ite ?_ ?_
      | refine LeO.bind ?_ (fun _ => ?_)

end Go.Proofs.Ytgaggfekgkedpaa.Q
