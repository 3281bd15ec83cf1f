-- Written by drv.py, a program of this session, over the kit's print, out of the translation. Not trusted: Lean checks it.
import Derived.Test.YtcagccodmmcnfaaOpn
import Derived.Test.YtcagccodmmcnfaaHcbd
namespace Go.Proofs.Ytcagccodmmcnfaa.Q
open Go.RowKit Go.Proofs.YtcagccodmmcnfaaW.PrintWords Go.Proofs.YtcagccodmmcnfaaW.PrintLast Go.Proofs.YtcagccodmmcnfaaW.PrintMore
attribute [local go_sem] max2_int min2_int max_two min_two max_three min_three max_four min_four   -- for this text's walks alone
set_option linter.unusedVariables false
set_option linter.unusedSimpArgs false


/-! ### cpu_fault: function 44 -/
def cpu_fault.f (a0_0 : Int) (a0_1 : Int) (a0_2 : Int) (a0_3 : Int) (a0_4 : Int) (a0_5 : Int) (a0_6 : Int) (a0_7 : Int) (a0_8 : Int) (a0_9 : Int) (a0_10 : Int) (a0_11 : Int) (a0_12 : Int) (a0_13 : Int) (a0_14 : Int) (a0_15 : Int) (a0_16 : Int) (l0_17 : List Int) (a0_18 : Int) (l0_19 : List Int) (l0_20 : List Int) (l0_21 : List Int) (a0_22 : Bool) (a0_23 : Int) (a0_24 : Int) (a1 : Int) : Option (Int × Int × Int × Int × Int × Int × Int × Int × Int × Int × Int × Int × Int × Int × Int × Int × Int × List Int × Int × List Int × List Int × List Int × Bool × Int × Int) := some (a0_0, a0_1, a0_2, a0_3, a0_4, a0_5, a0_6, a0_7, a0_8, a0_9, a0_10, a0_11, a0_12, a0_13, a0_14, a0_15, a0_16, l0_17, a0_18, l0_19, l0_20, l0_21, true, a0_23, a1)
/-! ### bits_may: function 66 -/
def bits_may.f (a0 : Int) : Option (Bool) := if a0 ≥ 1 then (some (decide (a0 ≤ 32))) else (some false)
/-! ### bits_Sign: function 56 -/
def bits_Sign.f (a0 : Int) (a1 : Int) : Option (Int) := (bits_may.f a1).bind fun t103 => (if t103 = true then (if 0 ≤ (wrap64 (64 - a1)) then (some (shr .i64 (wrap64 (shl .u64 (IntKind.u64.wrap (a0)) (wrap64 (64 - a1)))) (wrap64 (64 - a1)))) else (none)) else (some 0))
/-! ### bits_Cut: function 59 -/
def bits_Cut.f (a0 : Int) (a1 : Int) : Option (Int) := (bits_may.f a1).bind fun t104 => (if t104 = true then (if 0 ≤ a1 then (some ((Go.bits .and .u64 (IntKind.u64.wrap (a0)) (IntKind.u64.wrap ((shl .u64 1 a1) - 1))) % 4294967296)) else (none)) else (some 0))
/-! ### code_register: function 72 -/
def code_register.f (a0 : Int) (a1 : Bool) : Option (Bool) := if a0 = 0 then (some true) else (if a1 = true then (if a0 > 0 then (some (decide (a0 < 16))) else (some false)) else (some false))
/-! ### bits_Fits: function 74 -/
def bits_Fits.f (a0 : Int) (a1 : Int) : Option (Bool) := (bits_may.f a1).bind fun t105 => (if t105 = true then (if 0 ≤ (wrap64 (a1 - 1)) then (if a0 ≥ (shl .i64 (-1) (wrap64 (a1 - 1))) then (some (decide (a0 < (shl .i64 1 (wrap64 (a1 - 1)))))) else (some false)) else (none)) else (some false))
/-! ### code_form_imm: function 73 -/
def code_form_imm.f (a0_0 : Bool) (a0_1 : Bool) (a0_2 : Bool) (a0_3 : Int) (a0_4 : Bool) (a1 : Int) : Option (Bool) := if a0_3 = 0 then (some (a1 == 0)) else (if a0_4 = true then (if a1 ≥ 0 then (if 0 ≤ a0_3 then (some (decide (a1 < (shl .i64 1 a0_3)))) else (none)) else (some false)) else ((bits_Fits.f a1 a0_3).bind fun t107 => (some t107)))
/-! ### code_Right: function 67 -/
def code_Right.j0 : Nat → Bool → Int → Int → Int → Int → Int → Option (Bool)
  | 0, _, _, _, _, _, _ => none
  | k + 1, x11, x109000, x109001, x109002, x109003, x109004 => if x11 = true then (some false) else ((code_forms.f).bind fun t109 => (if 0 ≤ x109000 then (if x109000 < 26 then ((code_register.f x109001 (form_a x109000)).bind fun t111 => (if t111 = true then ((code_register.f x109002 (form_b x109000)).bind fun t112 => (if t112 = true then ((code_register.f x109003 (form_c x109000)).bind fun t113 => (if t113 = true then ((code_form_imm.f (form_a x109000) (form_b x109000) (form_c x109000) (form_w x109000) (form_p x109000) x109004).bind fun t114 => (some t114)) else (some false))) else (some false))) else (some false))) else (none)) else (none)))
def code_Right.f (k : Nat) (a0_0 : Int) (a0_1 : Int) (a0_2 : Int) (a0_3 : Int) (a0_4 : Int) : Option (Bool) := if a0_0 < 0 then (code_Right.j0 k true a0_0 a0_1 a0_2 a0_3 a0_4) else (code_Right.j0 k (decide (a0_0 ≥ 26)) a0_0 a0_1 a0_2 a0_3 a0_4)
theorem code_Right.mono_l : ∀ k, (∀ y0 y1 y2 y3 y4 y5, LeO (code_Right.j0 k y0 y1 y2 y3 y4 y5) (code_Right.j0 (k + 1) y0 y1 y2 y3 y4 y5))
  | 0 => fun _ _ _ _ _ _ r h => by simp [code_Right.j0] at h
  | k + 1 => by
    have ih0 := code_Right.mono_l k
    · intro y0 y1 y2 y3 y4 y5
      unfold code_Right.j0
      repeat' first
      | (with_reducible exact ih0 _ _ _ _ _ _)
      | (with_reducible exact LeO.refl _)
      | (with_reducible exact LeO.none _)
      | (with_reducible refine LeO.ite ?_ ?_)
      | (with_reducible refine LeO.bind ?_ (fun _ => ?_))
theorem code_Right.mono : ∀ a0 a1 a2 a3 a4 k, LeO (code_Right.f k a0 a1 a2 a3 a4) (code_Right.f (k + 1) a0 a1 a2 a3 a4) := by
  intro a0 a1 a2 a3 a4 k
  have ih0 := code_Right.mono_l k
  unfold code_Right.f
  repeat' first
      | (with_reducible exact ih0 _ _ _ _ _ _)
      | (with_reducible exact LeO.refl _)
      | (with_reducible exact LeO.none _)
      | (with_reducible refine LeO.ite ?_ ?_)
      | (with_reducible refine LeO.bind ?_ (fun _ => ?_))
/-! ### code_Put: function 57 -/
def code_Put.f (k : Nat) (a0_0 : Int) (a0_1 : Int) (a0_2 : Int) (a0_3 : Int) (a0_4 : Int) : Option (Int × Int) := (code_Right.f k a0_0 a0_1 a0_2 a0_3 a0_4).bind fun t116 => (if t116 = true then ((code_forms.f).bind fun t117 => (if 0 ≤ a0_0 then (if a0_0 < 26 then (if (form_w a0_0) > 0 then ((bits_Cut.f a0_4 (form_w a0_0)).bind fun t118 => (some (Go.bits .or .u32 (Go.bits .or .u32 (Go.bits .or .u32 (Go.bits .or .u32 ((((a0_0) % 4294967296) * 16777216) % 4294967296) ((((a0_1) % 4294967296) * 1048576) % 4294967296)) ((((a0_2) % 4294967296) * 65536) % 4294967296)) ((a0_3) % 4294967296)) t118, 0))) else (some (Go.bits .or .u32 (Go.bits .or .u32 (Go.bits .or .u32 ((((a0_0) % 4294967296) * 16777216) % 4294967296) ((((a0_1) % 4294967296) * 1048576) % 4294967296)) ((((a0_2) % 4294967296) * 65536) % 4294967296)) ((a0_3) % 4294967296), 0))) else (none)) else (none))) else (some (0, 3)))
theorem code_Put.mono : ∀ a0 a1 a2 a3 a4 k, LeO (code_Put.f k a0 a1 a2 a3 a4) (code_Put.f (k + 1) a0 a1 a2 a3 a4) := by
  intro a0 a1 a2 a3 a4 k
  unfold code_Put.f
  repeat' first
      | (with_reducible exact code_Right.mono _ _ _ _ _ _)
      | (with_reducible exact LeO.refl _)
      | (with_reducible exact LeO.none _)
      | (with_reducible refine LeO.ite ?_ ?_)
      | (with_reducible refine LeO.bind ?_ (fun _ => ?_))
/-! ### code_Get: function 45 -/
def code_Get.j0 : Nat → Int → Int → Int → Int → Int → Int → Bool → Bool → Bool → Int → Bool → Option (Int × Int × Int × Int × Int × Int)
  | 0, _, _, _, _, _, _, _, _, _, _, _ => none
  | k + 1, x0, x121000, x121001, x121002, x121003, x121004, x123000, x123001, x123002, x123003, x123004 => if x123002 = true then ((code_Put.f k x121000 x121001 x121002 (wrap64 (Go.bits .and .u32 x0 15)) x121004).bind fun bt123 => (if bt123.2 = 0 then (if bt123.1 = x0 then (some (x121000, x121001, x121002, wrap64 (Go.bits .and .u32 x0 15), x121004, 0)) else (some (0, 0, 0, 0, 0, 3))) else (some (0, 0, 0, 0, 0, 3)))) else (if x123004 = true then ((code_Put.f k x121000 x121001 x121002 x121003 (wrap64 (Go.bits .and .u32 x0 65535))).bind fun bt125 => (if bt125.2 = 0 then (if bt125.1 = x0 then (some (x121000, x121001, x121002, x121003, wrap64 (Go.bits .and .u32 x0 65535), 0)) else (some (0, 0, 0, 0, 0, 3))) else (some (0, 0, 0, 0, 0, 3)))) else (if x123003 > 0 then ((bits_Sign.f x0 x123003).bind fun t127 => ((code_Put.f k x121000 x121001 x121002 x121003 t127).bind fun bt128 => (if bt128.2 = 0 then (if bt128.1 = x0 then (some (x121000, x121001, x121002, x121003, t127, 0)) else (some (0, 0, 0, 0, 0, 3))) else (some (0, 0, 0, 0, 0, 3))))) else ((code_Put.f k x121000 x121001 x121002 x121003 x121004).bind fun bt130 => (if bt130.2 = 0 then (if bt130.1 = x0 then (some (x121000, x121001, x121002, x121003, x121004, 0)) else (some (0, 0, 0, 0, 0, 3))) else (some (0, 0, 0, 0, 0, 3))))))
def code_Get.f (k : Nat) (a0 : Int) : Option (Int × Int × Int × Int × Int × Int) := if (wrap64 (a0 / 16777216)) ≥ 26 then (some (0, 0, 0, 0, 0, 3)) else ((code_forms.f).bind fun t121 => (if 0 ≤ (wrap64 (a0 / 16777216)) then (if (wrap64 (a0 / 16777216)) < 26 then (if (form_w (wrap64 (a0 / 16777216))) < 24 then (code_Get.j0 k a0 (wrap64 (a0 / 16777216)) (wrap64 (Go.bits .and .u32 (a0 / 1048576) 15)) (wrap64 (Go.bits .and .u32 (a0 / 65536) 15)) 0 0 (form_a (wrap64 (a0 / 16777216))) (form_b (wrap64 (a0 / 16777216))) (form_c (wrap64 (a0 / 16777216))) (form_w (wrap64 (a0 / 16777216))) (form_p (wrap64 (a0 / 16777216)))) else (code_Get.j0 k a0 (wrap64 (a0 / 16777216)) 0 0 0 0 (form_a (wrap64 (a0 / 16777216))) (form_b (wrap64 (a0 / 16777216))) (form_c (wrap64 (a0 / 16777216))) (form_w (wrap64 (a0 / 16777216))) (form_p (wrap64 (a0 / 16777216))))) else (none)) else (none)))
theorem code_Get.mono_l : ∀ k, (∀ y0 y1 y2 y3 y4 y5 y6 y7 y8 y9 y10, LeO (code_Get.j0 k y0 y1 y2 y3 y4 y5 y6 y7 y8 y9 y10) (code_Get.j0 (k + 1) y0 y1 y2 y3 y4 y5 y6 y7 y8 y9 y10))
  | 0 => fun _ _ _ _ _ _ _ _ _ _ _ r h => by simp [code_Get.j0] at h
  | k + 1 => by
    have ih0 := code_Get.mono_l k
    · intro y0 y1 y2 y3 y4 y5 y6 y7 y8 y9 y10
      unfold code_Get.j0
      repeat' first
      | (with_reducible exact ih0 _ _ _ _ _ _ _ _ _ _ _)
      | (with_reducible exact code_Put.mono _ _ _ _ _ _)
      | (with_reducible exact LeO.refl _)
      | (with_reducible exact LeO.none _)
      | (with_reducible refine LeO.ite ?_ ?_)
      | (with_reducible refine LeO.bind ?_ (fun _ => ?_))
theorem code_Get.mono : ∀ a0 k, LeO (code_Get.f k a0) (code_Get.f (k + 1) a0) := by
  intro a0 k
  have ih0 := code_Get.mono_l k
  unfold code_Get.f
  repeat' first
      | (with_reducible exact ih0 _ _ _ _ _ _ _ _ _ _ _)
      | (with_reducible exact code_Put.mono _ _ _ _ _ _)
      | (with_reducible exact LeO.refl _)
      | (with_reducible exact LeO.none _)
      | (with_reducible refine LeO.ite ?_ ?_)
      | (with_reducible refine LeO.bind ?_ (fun _ => ?_))
/-! ### flow_Kind: function 46 -/
mutual
def flow_Kind.j0 : Nat → Int → Bool → Option (Int)
  | 0, _, _ => none
  | k + 1, x4, x5 => if x5 = true then (some 1) else (if x4 = 22 then (flow_Kind.j1 k x4 (x4 == 22)) else (flow_Kind.j1 k x4 (x4 == 23)))
def flow_Kind.j1 : Nat → Int → Bool → Option (Int)
  | 0, _, _ => none
  | k + 1, x4, x10 => if x10 = true then (some 1) else (if x4 = 15 then (flow_Kind.j2 k x4 (x4 == 15)) else (if x4 = 16 then (flow_Kind.j2 k x4 (x4 == 16)) else (if x4 = 17 then (flow_Kind.j2 k x4 (x4 == 17)) else (flow_Kind.j2 k x4 (x4 == 18)))))
def flow_Kind.j2 : Nat → Int → Bool → Option (Int)
  | 0, _, _ => none
  | k + 1, x4, x13 => if x13 = true then (some 2) else (if x4 = 19 then (some 3) else (if x4 = 20 then (some 4) else (if x4 = 0 then (some 5) else (if x4 = 21 then (some 5) else (if x4 = 25 then (some 5) else (some 0))))))
end
def flow_Kind.f (k : Nat) (a0_0 : Int) (a0_1 : Int) (a0_2 : Int) (a0_3 : Int) (a0_4 : Int) : Option (Int) := if a0_0 = 11 then (flow_Kind.j0 k a0_0 (a0_0 == 11)) else (if a0_0 = 12 then (flow_Kind.j0 k a0_0 (a0_0 == 12)) else (if a0_0 = 13 then (flow_Kind.j0 k a0_0 (a0_0 == 13)) else (flow_Kind.j0 k a0_0 (a0_0 == 14))))
theorem flow_Kind.mono_l : ∀ k, (∀ y0 y1, LeO (flow_Kind.j0 k y0 y1) (flow_Kind.j0 (k + 1) y0 y1)) ∧ (∀ y0 y1, LeO (flow_Kind.j1 k y0 y1) (flow_Kind.j1 (k + 1) y0 y1)) ∧ (∀ y0 y1, LeO (flow_Kind.j2 k y0 y1) (flow_Kind.j2 (k + 1) y0 y1))
  | 0 => ⟨fun _ _ r h => by simp [flow_Kind.j0] at h, fun _ _ r h => by simp [flow_Kind.j1] at h, fun _ _ r h => by simp [flow_Kind.j2] at h⟩
  | k + 1 => by
    obtain ⟨ih0, ih1, ih2⟩ := flow_Kind.mono_l k
    refine ⟨?_, ?_, ?_⟩
    · intro y0 y1
      unfold flow_Kind.j0
      repeat' first
      | (with_reducible exact ih0 _ _)
      | (with_reducible exact ih1 _ _)
      | (with_reducible exact ih2 _ _)
      | (with_reducible exact LeO.refl _)
      | (with_reducible exact LeO.none _)
      | (with_reducible refine LeO.ite ?_ ?_)
      | (with_reducible refine LeO.bind ?_ (fun _ => ?_))
    · intro y0 y1
      unfold flow_Kind.j1
      repeat' first
      | (with_reducible exact ih0 _ _)
      | (with_reducible exact ih1 _ _)
      | (with_reducible exact ih2 _ _)
      | (with_reducible exact LeO.refl _)
      | (with_reducible exact LeO.none _)
      | (with_reducible refine LeO.ite ?_ ?_)
      | (with_reducible refine LeO.bind ?_ (fun _ => ?_))
    · intro y0 y1
      unfold flow_Kind.j2
      repeat' first
      | (with_reducible exact ih0 _ _)
      | (with_reducible exact ih1 _ _)
      | (with_reducible exact ih2 _ _)
      | (with_reducible exact LeO.refl _)
      | (with_reducible exact LeO.none _)
      | (with_reducible refine LeO.ite ?_ ?_)
      | (with_reducible refine LeO.bind ?_ (fun _ => ?_))
theorem flow_Kind.mono : ∀ a0 a1 a2 a3 a4 k, LeO (flow_Kind.f k a0 a1 a2 a3 a4) (flow_Kind.f (k + 1) a0 a1 a2 a3 a4) := by
  intro a0 a1 a2 a3 a4 k
  obtain ⟨ih0, ih1, ih2⟩ := flow_Kind.mono_l k
  unfold flow_Kind.f
  repeat' first
      | (with_reducible exact ih0 _ _)
      | (with_reducible exact ih1 _ _)
      | (with_reducible exact ih2 _ _)
      | (with_reducible exact LeO.refl _)
      | (with_reducible exact LeO.none _)
      | (with_reducible refine LeO.ite ?_ ?_)
      | (with_reducible refine LeO.bind ?_ (fun _ => ?_))
/-! ### alu_less: function 58 -/
def alu_less.f (a0 : Int) (a1 : Int) : Option (Bool) := some (decide ((wrap32 (a0)) < (wrap32 (a1))))
/-! ### alu_Do: function 48 -/
def alu_Do.f (a0_0 : Int) (a0_1 : Int) (a0_2 : Int) (a0_3 : Int) (a0_4 : Int) (a1 : Int) (a2 : Int) : Option (Int) := if a0_0 = 1 then (some ((a1 + a2) % 4294967296)) else (if a0_0 = 2 then (some ((a1 - a2) % 4294967296)) else (if a0_0 = 3 then (some (Go.bits .and .u32 a1 a2)) else (if a0_0 = 4 then (some (Go.bits .or .u32 a1 a2)) else (if a0_0 = 5 then (some (Go.bits .xor .u32 a1 a2)) else (if a0_0 = 6 then ((alu_less.f a1 a2).bind fun t136 => (if t136 = true then (some 1) else (some 0))) else (if a0_0 = 7 then (some ((a1 * a2) % 4294967296)) else (if a0_0 = 8 then ((bits_Cut.f a0_4 32).bind fun t137 => (some ((a1 + t137) % 4294967296))) else (if a0_0 = 9 then ((bits_Cut.f a0_4 16).bind fun t138 => (some ((t138 * 65536) % 4294967296))) else (if a0_0 = 10 then ((bits_Cut.f a0_4 16).bind fun t139 => (some (Go.bits .or .u32 a1 t139))) else (some 0))))))))))
/-! ### store_size: function 70 -/
def store_size.f (a0 : Bool) : Option (Int) := if a0 = true then (some 4) else (some 1)
/-! ### store_place: function 68 -/
def store_place.f (a0_0 : Int) (l0_1 : List Int) (a1 : Int) (a2 : Bool) : Option (Int × Bool) := (store_size.f a2).bind fun t141 => (if (wrap64 ((wrap64 (a1)) - 65536)) ≥ 0 then (if (wrap64 ((wrap64 ((wrap64 (a1)) - 65536)) + t141)) ≤ (l0_1.length : Int) then (if t141 = 0 then (none) else (some (wrap64 ((wrap64 (a1)) - 65536), ((Int.tmod (wrap64 ((wrap64 (a1)) - 65536)) t141) == 0)))) else (some (wrap64 ((wrap64 (a1)) - 65536), false))) else (some (wrap64 ((wrap64 (a1)) - 65536), false)))
/-! ### bits_Get: function 69 -/
def bits_Get.l0 : Nat → List Int → Int → Int → Int → Option (Int)
  | 0, _, _, _, _ => none
  | k + 1, x0, x3, x7, x8 => if x8 < x7 then (if 0 ≤ x8 then (if x8 < (x0.length : Int) then (if 0 ≤ (wrap64 (8 * x8)) then (bits_Get.l0 k x0 (Go.bits .or .u32 x3 (shl .u32 ((rd x0 x8) % 4294967296) (wrap64 (8 * x8)))) x7 (wrap64 (x8 + 1))) else (none)) else (none)) else (none)) else (some x3)
def bits_Get.f (k : Nat) (l0 : List Int) : Option (Int) := bits_Get.l0 k l0 0 (mn 4 (l0.length : Int)) 0
theorem bits_Get.mono_l : ∀ k, (∀ y0 y1 y2 y3, LeO (bits_Get.l0 k y0 y1 y2 y3) (bits_Get.l0 (k + 1) y0 y1 y2 y3))
  | 0 => fun _ _ _ _ r h => by simp [bits_Get.l0] at h
  | k + 1 => by
    have ih0 := bits_Get.mono_l k
    · intro y0 y1 y2 y3
      unfold bits_Get.l0
      repeat' first
      | (with_reducible exact ih0 _ _ _ _)
      | (with_reducible exact LeO.refl _)
      | (with_reducible exact LeO.none _)
      | (with_reducible refine LeO.ite ?_ ?_)
      | (with_reducible refine LeO.bind ?_ (fun _ => ?_))
theorem bits_Get.mono : ∀ a0 k, LeO (bits_Get.f k a0) (bits_Get.f (k + 1) a0) := by
  intro a0 k
  have ih0 := bits_Get.mono_l k
  unfold bits_Get.f
  repeat' first
      | (with_reducible exact ih0 _ _ _ _)
      | (with_reducible exact LeO.refl _)
      | (with_reducible exact LeO.none _)
      | (with_reducible refine LeO.ite ?_ ?_)
      | (with_reducible refine LeO.bind ?_ (fun _ => ?_))
/-! ### store_Load: function 60 -/
def store_Load.f (k : Nat) (a0_0 : Int) (l0_1 : List Int) (a1 : Int) (a2 : Bool) : Option (Int × Bool) := (store_place.f a0_0 l0_1 a1 a2).bind fun bt144 => (if bt144.2 = true then ((store_size.f a2).bind fun t146 => (if 0 ≤ bt144.1 then (if bt144.1 ≤ (wrap64 (bt144.1 + t146)) then (if (wrap64 (bt144.1 + t146)) ≤ (l0_1.length : Int) then ((bits_Get.f k ((l0_1.take ((wrap64 (bt144.1 + t146)) : Int).toNat).drop (bt144.1 : Int).toNat)).bind fun t148 => (some (t148, true))) else (none)) else (none)) else (none))) else (some (0, false)))
theorem store_Load.mono : ∀ a0 a1 a2 a3 k, LeO (store_Load.f k a0 a1 a2 a3) (store_Load.f (k + 1) a0 a1 a2 a3) := by
  intro a0 a1 a2 a3 k
  unfold store_Load.f
  repeat' first
      | (with_reducible exact bits_Get.mono _ _)
      | (with_reducible exact LeO.refl _)
      | (with_reducible exact LeO.none _)
      | (with_reducible refine LeO.ite ?_ ?_)
      | (with_reducible refine LeO.bind ?_ (fun _ => ?_))
/-! ### bits_Put: function 71 -/
def bits_Put.f (a0 : Int) : Option (Int × Int × Int × Int) := some ((a0) % 256, (a0 / 256) % 256, (a0 / 65536) % 256, (a0 / 16777216) % 256)
/-! ### flow_Flip: function 64 -/
def flow_Flip.j0 : Nat → Int → Int → Bool → Option (Int)
  | 0, _, _, _ => none
  | k + 1, x0, x3, x4 => if x4 = true then (some (wrap64 (x0 + 1))) else (if x3 = 16 then (some (wrap64 (x0 - 1))) else (if x3 = 18 then (some (wrap64 (x0 - 1))) else (some (-1))))
def flow_Flip.f (k : Nat) (a0 : Int) : Option (Int) := if a0 = 15 then (flow_Flip.j0 k a0 a0 (a0 == 15)) else (flow_Flip.j0 k a0 a0 (a0 == 17))
theorem flow_Flip.mono_l : ∀ k, (∀ y0 y1 y2, LeO (flow_Flip.j0 k y0 y1 y2) (flow_Flip.j0 (k + 1) y0 y1 y2))
  | 0 => fun _ _ _ r h => by simp [flow_Flip.j0] at h
  | k + 1 => by
    have ih0 := flow_Flip.mono_l k
    · intro y0 y1 y2
      unfold flow_Flip.j0
      repeat' first
      | (with_reducible exact ih0 _ _ _)
      | (with_reducible exact LeO.refl _)
      | (with_reducible exact LeO.none _)
      | (with_reducible refine LeO.ite ?_ ?_)
      | (with_reducible refine LeO.bind ?_ (fun _ => ?_))
theorem flow_Flip.mono : ∀ a0 k, LeO (flow_Flip.f k a0) (flow_Flip.f (k + 1) a0) := by
  intro a0 k
  have ih0 := flow_Flip.mono_l k
  unfold flow_Flip.f
  repeat' first
      | (with_reducible exact ih0 _ _ _)
      | (with_reducible exact LeO.refl _)
      | (with_reducible exact LeO.none _)
      | (with_reducible refine LeO.ite ?_ ?_)
      | (with_reducible refine LeO.bind ?_ (fun _ => ?_))
/-! ### alu_Taken: function 65 -/
def alu_Taken.f (a0 : Int) (a1 : Int) (a2 : Int) : Option (Bool) := if a0 = 15 then (some (a1 == a2)) else (if a0 = 16 then (some (a1 != a2)) else (if a0 = 17 then ((alu_less.f a1 a2).bind fun t165 => (some t165)) else (if a0 = 18 then ((alu_less.f a1 a2).bind fun t166 => (some (!t166))) else (some false))))
/-! ### slices_Equal_byte_byte: function 32 -/
def slices_Equal_byte_byte.l0 : Nat → List Int → List Int → Int → Int → Option (Bool)
  | 0, _, _, _, _ => none
  | k + 1, x0, x1, x12, x13 => if x13 < x12 then (if 0 ≤ x13 then (if x13 < (x0.length : Int) then (if x13 < (x1.length : Int) then (if (rd x0 x13) = (rd x1 x13) then (slices_Equal_byte_byte.l0 k x0 x1 x12 (wrap64 (x13 + 1))) else (some false)) else (none)) else (none)) else (none)) else (some true)
def slices_Equal_byte_byte.f (k : Nat) (l0 : List Int) (l1 : List Int) : Option (Bool) := if (l0.length : Int) = (l1.length : Int) then (slices_Equal_byte_byte.l0 k l0 l1 (l0.length : Int) 0) else (some false)
theorem slices_Equal_byte_byte.mono_l : ∀ k, (∀ y0 y1 y2 y3, LeO (slices_Equal_byte_byte.l0 k y0 y1 y2 y3) (slices_Equal_byte_byte.l0 (k + 1) y0 y1 y2 y3))
  | 0 => fun _ _ _ _ r h => by simp [slices_Equal_byte_byte.l0] at h
  | k + 1 => by
    have ih0 := slices_Equal_byte_byte.mono_l k
    · intro y0 y1 y2 y3
      unfold slices_Equal_byte_byte.l0
      repeat' first
      | (with_reducible exact ih0 _ _ _ _)
      | (with_reducible exact LeO.refl _)
      | (with_reducible exact LeO.none _)
      | (with_reducible refine LeO.ite ?_ ?_)
      | (with_reducible refine LeO.bind ?_ (fun _ => ?_))
theorem slices_Equal_byte_byte.mono : ∀ a0 a1 k, LeO (slices_Equal_byte_byte.f k a0 a1) (slices_Equal_byte_byte.f (k + 1) a0 a1) := by
  intro a0 a1 k
  have ih0 := slices_Equal_byte_byte.mono_l k
  unfold slices_Equal_byte_byte.f
  repeat' first
      | (with_reducible exact ih0 _ _ _ _)
      | (with_reducible exact LeO.refl _)
      | (with_reducible exact LeO.none _)
      | (with_reducible refine LeO.ite ?_ ?_)
      | (with_reducible refine LeO.bind ?_ (fun _ => ?_))
/-! ### run_Alike: function 17 -/
def run_Alike.f (k : Nat) (l0_0 : List Int) (a0_1 : Bool) (a0_2 : Int) (a0_3 : Int) (l0_4 : List Int) (a0_5 : Int) (l1_0 : List Int) (a1_1 : Bool) (a1_2 : Int) (a1_3 : Int) (l1_4 : List Int) (a1_5 : Int) : Option (Bool) := (slices_Equal_byte_byte.f k l0_0 l1_0).bind fun t257 => (if t257 = true then (if (a0_1 == a1_1) = true then (if a0_2 = a1_2 then (if a0_3 = a1_3 then ((slices_Equal_byte_byte.f k l0_4 l1_4).bind fun t258 => (some t258)) else (some false)) else (some false)) else (some false)) else (some false))
theorem run_Alike.mono : ∀ a0 a1 a2 a3 a4 a5 a6 a7 a8 a9 a10 a11 k, LeO (run_Alike.f k a0 a1 a2 a3 a4 a5 a6 a7 a8 a9 a10 a11) (run_Alike.f (k + 1) a0 a1 a2 a3 a4 a5 a6 a7 a8 a9 a10 a11) := by
  intro a0 a1 a2 a3 a4 a5 a6 a7 a8 a9 a10 a11 k
  unfold run_Alike.f
  repeat' first
      | (with_reducible exact slices_Equal_byte_byte.mono _ _ _)
      | (with_reducible exact LeO.refl _)
      | (with_reducible exact LeO.none _)
      | (with_reducible refine LeO.ite ?_ ?_)
      | (with_reducible refine LeO.bind ?_ (fun _ => ?_))
/-! ### splicelaw07_fine: function 9 -/
def splicelaw07_fine.f (l0_0 : List Int) (a0_1 : Int) (l0_2 : List Int) (a0_3 : Int) (a0_4 : Int) : Option (Bool) := if a0_1 ≥ 0 then (if a0_3 ≥ 0 then (if a0_4 ≥ 0 then (if a0_1 ≤ 1048576 then (if a0_3 ≤ 1048576 then (if a0_4 ≤ 500 then (if (l0_2.length : Int) ≤ 500 then (some (decide ((l0_0.length : Int) ≤ 500))) else (some false)) else (some false)) else (some false)) else (some false)) else (some false)) else (some false)) else (some false)
/-! ### spliceref06_New: function 11 -/
def spliceref06_New.l0 : Nat → List Int → List Int → Int → List Int → Int → List Int → Int → Int → Option (Int × Int × Int × Int × Int × Int × Int × Int × Int × Int × Int × Int × Int × Int × Int × Int × Int × List Int × Int × List Int × List Int × List Int × Bool × Int × Int)
  | 0, _, _, _, _, _, _, _, _ => none
  | k + 1, x1, x5, x6, x261000, x261001, x261002, x261003, x261004 => if x6 < x261004 then (if x5.length < 140737488355328 then (spliceref06_New.l0 k x1 (x5 ++ [0]) (wrap64 (x6 + 1)) x261000 x261001 x261002 x261003 x261004) else (none)) else ((some (([] : List Int) : List Int)).bind fun y271 => (if y271.length + x1.length < 140737488355328 then (some (x261001, 0, 0, 0, 0, 0, 0, 0, 0, 0, 0, 0, 0, 0, 0, 0, 0, ([] : List Int), x261003, x5, (y271 ++ x1), ([] : List Int), false, 0, 0)) else (none)))
def spliceref06_New.f (k : Nat) (l0_0 : List Int) (a0_1 : Int) (l0_2 : List Int) (a0_3 : Int) (a0_4 : Int) (l1 : List Int) : Option (Int × Int × Int × Int × Int × Int × Int × Int × Int × Int × Int × Int × Int × Int × Int × Int × Int × List Int × Int × List Int × List Int × List Int × Bool × Int × Int) := (some (([] : List Int) : List Int)).bind fun y262 => (if y262.length + l0_2.length < 140737488355328 then (spliceref06_New.l0 k l1 (y262 ++ l0_2) 0 l0_0 a0_1 l0_2 a0_3 a0_4) else (none))
theorem spliceref06_New.mono_l : ∀ k, (∀ y0 y1 y2 y3 y4 y5 y6 y7, LeO (spliceref06_New.l0 k y0 y1 y2 y3 y4 y5 y6 y7) (spliceref06_New.l0 (k + 1) y0 y1 y2 y3 y4 y5 y6 y7))
  | 0 => fun _ _ _ _ _ _ _ _ r h => by simp [spliceref06_New.l0] at h
  | k + 1 => by
    have ih0 := spliceref06_New.mono_l k
    · intro y0 y1 y2 y3 y4 y5 y6 y7
      unfold spliceref06_New.l0
      repeat' first
      | (with_reducible exact ih0 _ _ _ _ _ _ _ _)
      | (with_reducible exact LeO.refl _)
      | (with_reducible exact LeO.none _)
      | (with_reducible refine LeO.ite ?_ ?_)
      | (with_reducible refine LeO.bind ?_ (fun _ => ?_))
theorem spliceref06_New.mono : ∀ a0 a1 a2 a3 a4 a5 k, LeO (spliceref06_New.f k a0 a1 a2 a3 a4 a5) (spliceref06_New.f (k + 1) a0 a1 a2 a3 a4 a5) := by
  intro a0 a1 a2 a3 a4 a5 k
  have ih0 := spliceref06_New.mono_l k
  unfold spliceref06_New.f
  repeat' first
      | (with_reducible exact ih0 _ _ _ _ _ _ _ _)
      | (with_reducible exact LeO.refl _)
      | (with_reducible exact LeO.none _)
      | (with_reducible refine LeO.ite ?_ ?_)
      | (with_reducible refine LeO.bind ?_ (fun _ => ?_))
/-! ### splicelaw07_fuel: function 12 -/
def splicelaw07_fuel.f (a0 : Int) : Option (Int) := if a0 < 0 then (some 0) else (some a0)
/-! ### spliceref06_end: function 21 -/
def spliceref06_end.f (a0_0 : Int) (a0_1 : Int) (a0_2 : Int) (a0_3 : Int) (a0_4 : Int) (a0_5 : Int) (a0_6 : Int) (a0_7 : Int) (a0_8 : Int) (a0_9 : Int) (a0_10 : Int) (a0_11 : Int) (a0_12 : Int) (a0_13 : Int) (a0_14 : Int) (a0_15 : Int) (a0_16 : Int) (l0_17 : List Int) (a0_18 : Int) (l0_19 : List Int) (l0_20 : List Int) (l0_21 : List Int) (a0_22 : Bool) (a0_23 : Int) (a0_24 : Int) (a1 : Int) : Option (Int × Int × Int × Int × Int × Int × Int × Int × Int × Int × Int × Int × Int × Int × Int × Int × Int × List Int × Int × List Int × List Int × List Int × Bool × Int × Int) := some (a0_0, a0_1, a0_2, a0_3, a0_4, a0_5, a0_6, a0_7, a0_8, a0_9, a0_10, a0_11, a0_12, a0_13, a0_14, a0_15, a0_16, l0_17, a0_18, l0_19, l0_20, l0_21, true, a0_23, a1)
/-! ### spliceref02_far: function 33 -/
def spliceref02_far.f (a0 : Int) : Option (Bool) := if a0 = 19 then (some true) else (some (a0 == 20))
/-! ### spliceref01_Power: function 52 -/
def spliceref01_Power.l0 : Nat → Int → Int → Int → Option (Int)
  | 0, _, _, _ => none
  | k + 1, x0, x3, x4 => if x4 < x0 then (spliceref01_Power.l0 k x0 (wrap64 (2 * x3)) (wrap64 (x4 + 1))) else (some x3)
def spliceref01_Power.f (k : Nat) (a0 : Int) : Option (Int) := spliceref01_Power.l0 k a0 1 0
theorem spliceref01_Power.mono_l : ∀ k, (∀ y0 y1 y2, LeO (spliceref01_Power.l0 k y0 y1 y2) (spliceref01_Power.l0 (k + 1) y0 y1 y2))
  | 0 => fun _ _ _ r h => by simp [spliceref01_Power.l0] at h
  | k + 1 => by
    have ih0 := spliceref01_Power.mono_l k
    · intro y0 y1 y2
      unfold spliceref01_Power.l0
      repeat' first
      | (with_reducible exact ih0 _ _ _)
      | (with_reducible exact LeO.refl _)
      | (with_reducible exact LeO.none _)
      | (with_reducible refine LeO.ite ?_ ?_)
      | (with_reducible refine LeO.bind ?_ (fun _ => ?_))
theorem spliceref01_Power.mono : ∀ a0 k, LeO (spliceref01_Power.f k a0) (spliceref01_Power.f (k + 1) a0) := by
  intro a0 k
  have ih0 := spliceref01_Power.mono_l k
  unfold spliceref01_Power.f
  repeat' first
      | (with_reducible exact ih0 _ _ _)
      | (with_reducible exact LeO.refl _)
      | (with_reducible exact LeO.none _)
      | (with_reducible refine LeO.ite ?_ ?_)
      | (with_reducible refine LeO.bind ?_ (fun _ => ?_))
/-! ### spliceref01_Sign: function 34 -/
def spliceref01_Sign.j0 : Nat → Int → Int → Bool → Option (Int)
  | 0, _, _, _ => none
  | k + 1, x0, x1, x11 => if x11 = true then (some 0) else ((spliceref01_Power.f k x1).bind fun t279 => (if t279 = 0 then (none) else ((spliceref01_Power.f k x1).bind fun t280 => (if (Int.tmod (wrap64 (x0)) t279) ≥ (wrap64 (Int.tdiv t280 2)) then ((spliceref01_Power.f k x1).bind fun t281 => (some (wrap64 ((Int.tmod (wrap64 (x0)) t279) - t281)))) else (some (Int.tmod (wrap64 (x0)) t279))))))
def spliceref01_Sign.f (k : Nat) (a0 : Int) (a1 : Int) : Option (Int) := if a1 < 1 then (spliceref01_Sign.j0 k a0 a1 true) else (spliceref01_Sign.j0 k a0 a1 (decide (a1 > 32)))
theorem spliceref01_Sign.mono_l : ∀ k, (∀ y0 y1 y2, LeO (spliceref01_Sign.j0 k y0 y1 y2) (spliceref01_Sign.j0 (k + 1) y0 y1 y2))
  | 0 => fun _ _ _ r h => by simp [spliceref01_Sign.j0] at h
  | k + 1 => by
    have ih0 := spliceref01_Sign.mono_l k
    · intro y0 y1 y2
      unfold spliceref01_Sign.j0
      repeat' first
      | (with_reducible exact ih0 _ _ _)
      | (with_reducible exact spliceref01_Power.mono _ _)
      | (with_reducible exact LeO.refl _)
      | (with_reducible exact LeO.none _)
      | (with_reducible refine LeO.ite ?_ ?_)
      | (with_reducible refine LeO.bind ?_ (fun _ => ?_))
theorem spliceref01_Sign.mono : ∀ a0 a1 k, LeO (spliceref01_Sign.f k a0 a1) (spliceref01_Sign.f (k + 1) a0 a1) := by
  intro a0 a1 k
  have ih0 := spliceref01_Sign.mono_l k
  unfold spliceref01_Sign.f
  repeat' first
      | (with_reducible exact ih0 _ _ _)
      | (with_reducible exact spliceref01_Power.mono _ _)
      | (with_reducible exact LeO.refl _)
      | (with_reducible exact LeO.none _)
      | (with_reducible refine LeO.ite ?_ ?_)
      | (with_reducible refine LeO.bind ?_ (fun _ => ?_))
/-! ### spliceref02_three: function 35 -/
def spliceref02_three.f (a0 : Int) : Option (Bool) := if a0 ≥ 1 then (some (decide (a0 ≤ 7))) else (some false)
/-! ### spliceref02_near: function 36 -/
def spliceref02_near.f (a0 : Int) : Option (Bool) := if a0 = 8 then (some true) else (if a0 ≥ 11 then (some (decide (a0 ≤ 14))) else (some false))
/-! ### spliceref02_branch: function 37 -/
def spliceref02_branch.f (a0 : Int) : Option (Bool) := if a0 ≥ 15 then (some (decide (a0 ≤ 18))) else (some false)
/-! ### spliceref02_reg: function 53 -/
def spliceref02_reg.f (a0 : Int) : Option (Bool) := if a0 ≥ 0 then (some (decide (a0 ≤ 15))) else (some false)
/-! ### spliceref02_one: function 54 -/
def spliceref02_one.f (a0 : Int) : Option (Bool) := if a0 = 0 then (some true) else (if a0 = 22 then (some true) else (some (a0 == 23)))
/-! ### spliceref02_Right: function 38 -/
def spliceref02_Right.f (a0_0 : Int) (a0_1 : Int) (a0_2 : Int) (a0_3 : Int) (a0_4 : Int) : Option (Bool) := (spliceref02_three.f a0_0).bind fun t283 => (if t283 = true then ((spliceref02_reg.f a0_1).bind fun t284 => (if t284 = true then ((spliceref02_reg.f a0_2).bind fun t285 => (if t285 = true then ((spliceref02_reg.f a0_3).bind fun t286 => (if t286 = true then (some (a0_4 == 0)) else (some false))) else (some false))) else (some false))) else (if a0_3 = 0 then ((spliceref02_near.f a0_0).bind fun t287 => (if t287 = true then ((spliceref02_reg.f a0_1).bind fun t288 => (if t288 = true then ((spliceref02_reg.f a0_2).bind fun t289 => (if t289 = true then (if a0_4 ≥ (-32768) then (some (decide (a0_4 ≤ 32767))) else (some false)) else (some false))) else (some false))) else (if a0_0 = 10 then ((spliceref02_reg.f a0_1).bind fun t290 => (if t290 = true then ((spliceref02_reg.f a0_2).bind fun t291 => (if t291 = true then (if a0_4 ≥ 0 then (some (decide (a0_4 ≤ 65535))) else (some false)) else (some false))) else (some false))) else ((spliceref02_branch.f a0_0).bind fun t292 => (if t292 = true then ((spliceref02_reg.f a0_1).bind fun t293 => (if t293 = true then ((spliceref02_reg.f a0_2).bind fun t294 => (if t294 = true then (if a0_4 ≥ (-128) then (some (decide (a0_4 ≤ 127))) else (some false)) else (some false))) else (some false))) else (if a0_2 = 0 then (if a0_0 = 9 then ((spliceref02_reg.f a0_1).bind fun t295 => (if t295 = true then (if a0_4 ≥ 0 then (some (decide (a0_4 ≤ 65535))) else (some false)) else (some false))) else ((spliceref02_one.f a0_0).bind fun t296 => (if t296 = true then ((spliceref02_reg.f a0_1).bind fun t297 => (if t297 = true then (some (a0_4 == 0)) else (some false))) else ((spliceref02_far.f a0_0).bind fun t298 => (if t298 = true then (if a0_1 = 0 then (if a0_4 ≥ (-8388608) then (some (decide (a0_4 ≤ 8388607))) else (some false)) else (some false)) else (if a0_0 = 21 then (if a0_1 = 0 then (some (a0_4 == 0)) else (some false)) else (if a0_0 = 24 then (if a0_1 = 0 then (some (a0_4 == 0)) else (some false)) else (if a0_0 = 25 then (if a0_1 = 0 then (some (a0_4 == 0)) else (some false)) else (some false))))))))) else (some false))))))) else (some false)))
/-! ### spliceref03_Kind: function 23 -/
def spliceref03_Kind.f (a0_0 : Int) (a0_1 : Int) (a0_2 : Int) (a0_3 : Int) (a0_4 : Int) : Option (Int) := (some (([5, 0, 0, 0, 0, 0, 0, 0, 0, 0, 0, 1, 1, 1, 1, 2, 2, 2, 2, 3, 4, 5, 1, 1, 0, 5] : List Int) : List Int)).bind fun y300 => (if 0 ≤ a0_0 then (if a0_0 < (y300.length : Int) then (some (rd y300 a0_0)) else (none)) else (none))
/-! ### spliceref01_Mod: function 24 -/
def spliceref01_Mod.f (a0 : Int) (a1 : Int) : Option (Int) := if a1 = 0 then (none) else (if (Int.tmod a0 a1) < 0 then (some (wrap64 ((Int.tmod a0 a1) + a1))) else (some (Int.tmod a0 a1)))
/-! ### spliceref05_There: function 39 -/
def spliceref05_There.f (a0_0 : Int) (l0_1 : List Int) (a1 : Int) : Option (Bool) := if a1 ≥ 65536 then (some (decide ((wrap64 (a1 - 65536)) < (l0_1.length : Int)))) else (some false)
/-! ### spliceref01_Get: function 40 -/
def spliceref01_Get.l0 : Nat → List Int → Int → Int → Option (Int)
  | 0, _, _, _ => none
  | k + 1, x0, x3, x4 => if x4 ≥ 0 then (if x4 < (x0.length : Int) then (if 0 ≤ x4 then (spliceref01_Get.l0 k x0 (wrap64 ((wrap64 (256 * x3)) + (wrap64 (rd x0 x4)))) (wrap64 (x4 - 1))) else (none)) else (spliceref01_Get.l0 k x0 (wrap64 (256 * x3)) (wrap64 (x4 - 1)))) else (some ((x3) % 4294967296))
def spliceref01_Get.f (k : Nat) (l0 : List Int) : Option (Int) := spliceref01_Get.l0 k l0 0 3
theorem spliceref01_Get.mono_l : ∀ k, (∀ y0 y1 y2, LeO (spliceref01_Get.l0 k y0 y1 y2) (spliceref01_Get.l0 (k + 1) y0 y1 y2))
  | 0 => fun _ _ _ r h => by simp [spliceref01_Get.l0] at h
  | k + 1 => by
    have ih0 := spliceref01_Get.mono_l k
    · intro y0 y1 y2
      unfold spliceref01_Get.l0
      repeat' first
      | (with_reducible exact ih0 _ _ _)
      | (with_reducible exact LeO.refl _)
      | (with_reducible exact LeO.none _)
      | (with_reducible refine LeO.ite ?_ ?_)
      | (with_reducible refine LeO.bind ?_ (fun _ => ?_))
theorem spliceref01_Get.mono : ∀ a0 k, LeO (spliceref01_Get.f k a0) (spliceref01_Get.f (k + 1) a0) := by
  intro a0 k
  have ih0 := spliceref01_Get.mono_l k
  unfold spliceref01_Get.f
  repeat' first
      | (with_reducible exact ih0 _ _ _)
      | (with_reducible exact LeO.refl _)
      | (with_reducible exact LeO.none _)
      | (with_reducible refine LeO.ite ?_ ?_)
      | (with_reducible refine LeO.bind ?_ (fun _ => ?_))
/-! ### spliceref05_Load: function 25 -/
def spliceref05_Load.j0 : Nat → Bool → Int → Bool → Int → List Int → Option (Int × Bool)
  | 0, _, _, _, _, _ => none
  | k + 1, x2, x8, x29, x307000, x307001 => if x29 = true then (some (0, false)) else (if x2 = true then (if 0 ≤ (wrap64 (x8 - 65536)) then (if (wrap64 (x8 - 65536)) ≤ (wrap64 ((wrap64 (x8 - 65536)) + 4)) then (if (wrap64 ((wrap64 (x8 - 65536)) + 4)) ≤ (x307001.length : Int) then ((spliceref01_Get.f k ((x307001.take ((wrap64 ((wrap64 (x8 - 65536)) + 4)) : Int).toNat).drop ((wrap64 (x8 - 65536)) : Int).toNat)).bind fun t310 => (some (t310, true))) else (none)) else (none)) else (none)) else (if 0 ≤ (wrap64 (x8 - 65536)) then (if (wrap64 (x8 - 65536)) < (x307001.length : Int) then (some ((rd x307001 (wrap64 (x8 - 65536))) % 4294967296, true)) else (none)) else (none)))
def spliceref05_Load.f (k : Nat) (a0_0 : Int) (l0_1 : List Int) (a1 : Int) (a2 : Bool) : Option (Int × Bool) := (spliceref05_There.f a0_0 l0_1 (wrap64 (a1))).bind fun t307 => (if t307 = true then (if a2 = true then (if (Int.tmod (wrap64 (a1)) 4) = 0 then ((spliceref05_There.f a0_0 l0_1 (wrap64 ((wrap64 (a1)) + 3))).bind fun t308 => (spliceref05_Load.j0 k a2 (wrap64 (a1)) (!t308) a0_0 l0_1)) else (spliceref05_Load.j0 k a2 (wrap64 (a1)) true a0_0 l0_1)) else (spliceref05_Load.j0 k a2 (wrap64 (a1)) false a0_0 l0_1)) else (spliceref05_Load.j0 k a2 (wrap64 (a1)) true a0_0 l0_1))
theorem spliceref05_Load.mono_l : ∀ k, (∀ y0 y1 y2 y3 y4, LeO (spliceref05_Load.j0 k y0 y1 y2 y3 y4) (spliceref05_Load.j0 (k + 1) y0 y1 y2 y3 y4))
  | 0 => fun _ _ _ _ _ r h => by simp [spliceref05_Load.j0] at h
  | k + 1 => by
    have ih0 := spliceref05_Load.mono_l k
    · intro y0 y1 y2 y3 y4
      unfold spliceref05_Load.j0
      repeat' first
      | (with_reducible exact ih0 _ _ _ _ _)
      | (with_reducible exact spliceref01_Get.mono _ _)
      | (with_reducible exact LeO.refl _)
      | (with_reducible exact LeO.none _)
      | (with_reducible refine LeO.ite ?_ ?_)
      | (with_reducible refine LeO.bind ?_ (fun _ => ?_))
theorem spliceref05_Load.mono : ∀ a0 a1 a2 a3 k, LeO (spliceref05_Load.f k a0 a1 a2 a3) (spliceref05_Load.f (k + 1) a0 a1 a2 a3) := by
  intro a0 a1 a2 a3 k
  have ih0 := spliceref05_Load.mono_l k
  unfold spliceref05_Load.f
  repeat' first
      | (with_reducible exact ih0 _ _ _ _ _)
      | (with_reducible exact spliceref01_Get.mono _ _)
      | (with_reducible exact LeO.refl _)
      | (with_reducible exact LeO.none _)
      | (with_reducible refine LeO.ite ?_ ?_)
      | (with_reducible refine LeO.bind ?_ (fun _ => ?_))
/-! ### spliceref01_Put: function 41 -/
def spliceref01_Put.f (a0 : Int) : Option (List Int) := some (([(Int.tmod (wrap64 (a0)) 256) % 256, (Int.tmod (wrap64 (Int.tdiv (wrap64 (a0)) 256)) 256) % 256, (Int.tmod (wrap64 (Int.tdiv (wrap64 (a0)) 65536)) 256) % 256, (wrap64 (Int.tdiv (wrap64 (a0)) 16777216)) % 256] : List Int))
/-! ### spliceref05_Save: function 26 -/
mutual
def spliceref05_Save.j0 : Nat → Int → Bool → Int → Bool → Int → List Int → Option (Int × List Int × Bool)
  | 0, _, _, _, _, _, _ => none
  | k + 1, x2, x3, x12, x33, x316000, x316001 => if x33 = true then (some (x316000, x316001, false)) else ((some (([] : List Int) : List Int)).bind fun y319 => (if y319.length + x316001.length < 140737488355328 then ((some (y319 ++ x316001 : List Int)).bind fun y322 => ((spliceref01_Put.f x2).bind fun t326 => (if 0 < (t326.length : Int) then (if 0 ≤ x12 then (if x12 < (y322.length : Int) then (spliceref05_Save.l0 k x3 x12 t326 1 x316000 (y322.set (x12 : Int).toNat (rd t326 0))) else (none)) else (none)) else (none)))) else (none)))
def spliceref05_Save.l0 : Nat → Bool → Int → List Int → Int → Int → List Int → Option (Int × List Int × Bool)
  | 0, _, _, _, _, _, _ => none
  | k + 1, x3, x12, x14, x15, x326000, x326001 => if x3 = true then (if x15 < 4 then (if 0 ≤ x15 then (if x15 < (x14.length : Int) then (if 0 ≤ (wrap64 (x12 + x15)) then (if (wrap64 (x12 + x15)) < (x326001.length : Int) then (spliceref05_Save.l0 k x3 x12 x14 (wrap64 (x15 + 1)) x326000 (x326001.set ((wrap64 (x12 + x15)) : Int).toNat (rd x14 x15))) else (none)) else (none)) else (none)) else (none)) else (some (x326000, x326001, true))) else (some (x326000, x326001, true))
end
def spliceref05_Save.f (k : Nat) (a0_0 : Int) (l0_1 : List Int) (a1 : Int) (a2 : Int) (a3 : Bool) : Option (Int × List Int × Bool) := (spliceref05_Load.f k a0_0 l0_1 a1 a3).bind fun bt317 => (if bt317.2 = true then (spliceref05_Save.j0 k a2 a3 (wrap64 ((wrap64 (a1)) - 65536)) (decide ((wrap64 ((wrap64 (a1)) - 65536)) < a0_0)) a0_0 l0_1) else (spliceref05_Save.j0 k a2 a3 (wrap64 ((wrap64 (a1)) - 65536)) true a0_0 l0_1))
theorem spliceref05_Save.mono_l : ∀ k, (∀ y0 y1 y2 y3 y4 y5, LeO (spliceref05_Save.j0 k y0 y1 y2 y3 y4 y5) (spliceref05_Save.j0 (k + 1) y0 y1 y2 y3 y4 y5)) ∧ (∀ y0 y1 y2 y3 y4 y5, LeO (spliceref05_Save.l0 k y0 y1 y2 y3 y4 y5) (spliceref05_Save.l0 (k + 1) y0 y1 y2 y3 y4 y5))
  | 0 => ⟨fun _ _ _ _ _ _ r h => by simp [spliceref05_Save.j0] at h, fun _ _ _ _ _ _ r h => by simp [spliceref05_Save.l0] at h⟩
  | k + 1 => by
    obtain ⟨ih0, ih1⟩ := spliceref05_Save.mono_l k
    refine ⟨?_, ?_⟩
    · intro y0 y1 y2 y3 y4 y5
      unfold spliceref05_Save.j0
      repeat' first
      | (with_reducible exact ih0 _ _ _ _ _ _)
      | (with_reducible exact ih1 _ _ _ _ _ _)
      | (with_reducible exact spliceref05_Load.mono _ _ _ _ _)
      | (with_reducible exact LeO.refl _)
      | (with_reducible exact LeO.none _)
      | (with_reducible refine LeO.ite ?_ ?_)
      | (with_reducible refine LeO.bind ?_ (fun _ => ?_))
    · intro y0 y1 y2 y3 y4 y5
      unfold spliceref05_Save.l0
      repeat' first
      | (with_reducible exact ih0 _ _ _ _ _ _)
      | (with_reducible exact ih1 _ _ _ _ _ _)
      | (with_reducible exact spliceref05_Load.mono _ _ _ _ _)
      | (with_reducible exact LeO.refl _)
      | (with_reducible exact LeO.none _)
      | (with_reducible refine LeO.ite ?_ ?_)
      | (with_reducible refine LeO.bind ?_ (fun _ => ?_))
theorem spliceref05_Save.mono : ∀ a0 a1 a2 a3 a4 k, LeO (spliceref05_Save.f k a0 a1 a2 a3 a4) (spliceref05_Save.f (k + 1) a0 a1 a2 a3 a4) := by
  intro a0 a1 a2 a3 a4 k
  obtain ⟨ih0, ih1⟩ := spliceref05_Save.mono_l k
  unfold spliceref05_Save.f
  repeat' first
      | (with_reducible exact ih0 _ _ _ _ _ _)
      | (with_reducible exact ih1 _ _ _ _ _ _)
      | (with_reducible exact spliceref05_Load.mono _ _ _ _ _)
      | (with_reducible exact LeO.refl _)
      | (with_reducible exact LeO.none _)
      | (with_reducible refine LeO.ite ?_ ?_)
      | (with_reducible refine LeO.bind ?_ (fun _ => ?_))
/-! ### spliceref04_word: function 42 -/
def spliceref04_word.f (a0 : Int) : Option (Int) := (spliceref01_Mod.f a0 4294967296).bind fun t333 => (some ((t333) % 4294967296))
/-! ### spliceref04_bitwise: function 43 -/
def spliceref04_bitwise.l0 : Nat → Int → Int → Int → Int → Int → Option (Int)
  | 0, _, _, _, _, _ => none
  | k + 1, x0, x1, x2, x7, x8 => if x8 ≥ 0 then (if 0 ≤ (IntKind.u64.wrap (x8)) then (if x2 = 1 then (if x2 = 2 then (spliceref04_bitwise.l0 k x0 x1 x2 (wrap64 ((wrap64 (2 * x7)) + (Int.tmod (wrap64 ((Int.tmod (wrap64 (shr .u32 x0 (IntKind.u64.wrap (x8)))) 2) + (Int.tmod (wrap64 (shr .u32 x1 (IntKind.u64.wrap (x8)))) 2))) 2))) (wrap64 (x8 - 1))) else (spliceref04_bitwise.l0 k x0 x1 x2 (wrap64 ((wrap64 (2 * x7)) + (wrap64 ((wrap64 ((Int.tmod (wrap64 (shr .u32 x0 (IntKind.u64.wrap (x8)))) 2) + (Int.tmod (wrap64 (shr .u32 x1 (IntKind.u64.wrap (x8)))) 2))) - (wrap64 ((Int.tmod (wrap64 (shr .u32 x0 (IntKind.u64.wrap (x8)))) 2) * (Int.tmod (wrap64 (shr .u32 x1 (IntKind.u64.wrap (x8)))) 2))))))) (wrap64 (x8 - 1)))) else (if x2 = 2 then (spliceref04_bitwise.l0 k x0 x1 x2 (wrap64 ((wrap64 (2 * x7)) + (Int.tmod (wrap64 ((Int.tmod (wrap64 (shr .u32 x0 (IntKind.u64.wrap (x8)))) 2) + (Int.tmod (wrap64 (shr .u32 x1 (IntKind.u64.wrap (x8)))) 2))) 2))) (wrap64 (x8 - 1))) else (spliceref04_bitwise.l0 k x0 x1 x2 (wrap64 ((wrap64 (2 * x7)) + (wrap64 ((Int.tmod (wrap64 (shr .u32 x0 (IntKind.u64.wrap (x8)))) 2) * (Int.tmod (wrap64 (shr .u32 x1 (IntKind.u64.wrap (x8)))) 2))))) (wrap64 (x8 - 1))))) else (none)) else (some ((x7) % 4294967296))
def spliceref04_bitwise.f (k : Nat) (a0 : Int) (a1 : Int) (a2 : Int) : Option (Int) := spliceref04_bitwise.l0 k a0 a1 a2 0 31
theorem spliceref04_bitwise.mono_l : ∀ k, (∀ y0 y1 y2 y3 y4, LeO (spliceref04_bitwise.l0 k y0 y1 y2 y3 y4) (spliceref04_bitwise.l0 (k + 1) y0 y1 y2 y3 y4))
  | 0 => fun _ _ _ _ _ r h => by simp [spliceref04_bitwise.l0] at h
  | k + 1 => by
    have ih0 := spliceref04_bitwise.mono_l k
    · intro y0 y1 y2 y3 y4
      unfold spliceref04_bitwise.l0
      repeat' first
      | (with_reducible exact ih0 _ _ _ _ _)
      | (with_reducible exact LeO.refl _)
      | (with_reducible exact LeO.none _)
      | (with_reducible refine LeO.ite ?_ ?_)
      | (with_reducible refine LeO.bind ?_ (fun _ => ?_))
theorem spliceref04_bitwise.mono : ∀ a0 a1 a2 k, LeO (spliceref04_bitwise.f k a0 a1 a2) (spliceref04_bitwise.f (k + 1) a0 a1 a2) := by
  intro a0 a1 a2 k
  have ih0 := spliceref04_bitwise.mono_l k
  unfold spliceref04_bitwise.f
  repeat' first
      | (with_reducible exact ih0 _ _ _ _ _)
      | (with_reducible exact LeO.refl _)
      | (with_reducible exact LeO.none _)
      | (with_reducible refine LeO.ite ?_ ?_)
      | (with_reducible refine LeO.bind ?_ (fun _ => ?_))
/-! ### spliceref04_Do: function 27 -/
mutual
def spliceref04_Do.j0 : Nat → Int → Int → Int → Int → Bool → Int → Int → Int → Int → Int → Option (Int)
  | 0, _, _, _, _, _, _, _, _, _, _ => none
  | k + 1, x1, x2, x7, x8, x34, x335000, x335001, x335002, x335003, x335004 => if x34 = true then ((spliceref04_bitwise.f k x1 x2 (wrap64 (x335000 - 3))).bind fun t337 => (some t337)) else (if x335000 = 6 then ((spliceref01_Sign.f k x1 32).bind fun t338 => ((spliceref01_Sign.f k x2 32).bind fun t339 => (spliceref04_Do.j1 k x1 x7 x8 (decide (t338 < t339)) x335000 x335001 x335002 x335003 x335004))) else (spliceref04_Do.j1 k x1 x7 x8 false x335000 x335001 x335002 x335003 x335004))
def spliceref04_Do.j1 : Nat → Int → Int → Int → Bool → Int → Int → Int → Int → Int → Option (Int)
  | 0, _, _, _, _, _, _, _, _, _ => none
  | k + 1, x1, x7, x8, x50, x335000, x335001, x335002, x335003, x335004 => if x50 = true then (some 1) else (if x335000 = 7 then ((spliceref04_word.f (wrap64 ((wrap64 ((Int.tmod x7 65536) * x8)) + (wrap64 ((wrap64 ((wrap64 (Int.tdiv x7 65536)) * (Int.tmod x8 65536))) * 65536))))).bind fun t340 => (some t340)) else (if x335000 = 8 then ((spliceref04_word.f (wrap64 (x7 + x335004))).bind fun t341 => (some t341)) else (if x335000 = 9 then ((spliceref04_word.f (wrap64 (x335004 * 65536))).bind fun t342 => (some t342)) else (if x335000 = 10 then ((spliceref04_bitwise.f k x1 ((x335004) % 4294967296) 1).bind fun t343 => (some t343)) else (some 0)))))
end
def spliceref04_Do.f (k : Nat) (a0_0 : Int) (a0_1 : Int) (a0_2 : Int) (a0_3 : Int) (a0_4 : Int) (a1 : Int) (a2 : Int) : Option (Int) := if a0_0 = 1 then ((spliceref04_word.f (wrap64 ((wrap64 (a1)) + (wrap64 (a2))))).bind fun t335 => (some t335)) else (if a0_0 = 2 then ((spliceref04_word.f (wrap64 ((wrap64 (a1)) - (wrap64 (a2))))).bind fun t336 => (some t336)) else (if a0_0 ≥ 3 then (spliceref04_Do.j0 k a1 a2 (wrap64 (a1)) (wrap64 (a2)) (decide (a0_0 ≤ 5)) a0_0 a0_1 a0_2 a0_3 a0_4) else (spliceref04_Do.j0 k a1 a2 (wrap64 (a1)) (wrap64 (a2)) false a0_0 a0_1 a0_2 a0_3 a0_4)))
theorem spliceref04_Do.mono_l : ∀ k, (∀ y0 y1 y2 y3 y4 y5 y6 y7 y8 y9, LeO (spliceref04_Do.j0 k y0 y1 y2 y3 y4 y5 y6 y7 y8 y9) (spliceref04_Do.j0 (k + 1) y0 y1 y2 y3 y4 y5 y6 y7 y8 y9)) ∧ (∀ y0 y1 y2 y3 y4 y5 y6 y7 y8, LeO (spliceref04_Do.j1 k y0 y1 y2 y3 y4 y5 y6 y7 y8) (spliceref04_Do.j1 (k + 1) y0 y1 y2 y3 y4 y5 y6 y7 y8))
  | 0 => ⟨fun _ _ _ _ _ _ _ _ _ _ r h => by simp [spliceref04_Do.j0] at h, fun _ _ _ _ _ _ _ _ _ r h => by simp [spliceref04_Do.j1] at h⟩
  | k + 1 => by
    obtain ⟨ih0, ih1⟩ := spliceref04_Do.mono_l k
    refine ⟨?_, ?_⟩
    · intro y0 y1 y2 y3 y4 y5 y6 y7 y8 y9
      unfold spliceref04_Do.j0
      repeat' first
      | (with_reducible exact ih0 _ _ _ _ _ _ _ _ _ _)
      | (with_reducible exact ih1 _ _ _ _ _ _ _ _ _)
      | (with_reducible exact spliceref01_Sign.mono _ _ _)
      | (with_reducible exact spliceref04_bitwise.mono _ _ _ _)
      | (with_reducible exact LeO.refl _)
      | (with_reducible exact LeO.none _)
      | (with_reducible refine LeO.ite ?_ ?_)
      | (with_reducible refine LeO.bind ?_ (fun _ => ?_))
    · intro y0 y1 y2 y3 y4 y5 y6 y7 y8
      unfold spliceref04_Do.j1
      repeat' first
      | (with_reducible exact ih0 _ _ _ _ _ _ _ _ _ _)
      | (with_reducible exact ih1 _ _ _ _ _ _ _ _ _)
      | (with_reducible exact spliceref01_Sign.mono _ _ _)
      | (with_reducible exact spliceref04_bitwise.mono _ _ _ _)
      | (with_reducible exact LeO.refl _)
      | (with_reducible exact LeO.none _)
      | (with_reducible refine LeO.ite ?_ ?_)
      | (with_reducible refine LeO.bind ?_ (fun _ => ?_))
theorem spliceref04_Do.mono : ∀ a0 a1 a2 a3 a4 a5 a6 k, LeO (spliceref04_Do.f k a0 a1 a2 a3 a4 a5 a6) (spliceref04_Do.f (k + 1) a0 a1 a2 a3 a4 a5 a6) := by
  intro a0 a1 a2 a3 a4 a5 a6 k
  obtain ⟨ih0, ih1⟩ := spliceref04_Do.mono_l k
  unfold spliceref04_Do.f
  repeat' first
      | (with_reducible exact ih0 _ _ _ _ _ _ _ _ _ _)
      | (with_reducible exact ih1 _ _ _ _ _ _ _ _ _)
      | (with_reducible exact spliceref01_Sign.mono _ _ _)
      | (with_reducible exact spliceref04_bitwise.mono _ _ _ _)
      | (with_reducible exact LeO.refl _)
      | (with_reducible exact LeO.none _)
      | (with_reducible refine LeO.ite ?_ ?_)
      | (with_reducible refine LeO.bind ?_ (fun _ => ?_))
/-! ### spliceref04_Taken: function 28 -/
def spliceref04_Taken.f (k : Nat) (a0 : Int) (a1 : Int) (a2 : Int) : Option (Bool) := (spliceref01_Sign.f k a1 32).bind fun t344 => ((spliceref01_Sign.f k a2 32).bind fun t345 => (if a0 = 15 then (if t344 = t345 then (some true) else (if a0 = 16 then (some true) else (if a0 = 17 then (if t344 < t345 then (some true) else (if a0 = 18 then (some (decide (t344 ≥ t345))) else (some false))) else (if a0 = 18 then (some (decide (t344 ≥ t345))) else (some false))))) else (if a0 = 16 then (if t344 = t345 then (if a0 = 17 then (if t344 < t345 then (some true) else (if a0 = 18 then (some (decide (t344 ≥ t345))) else (some false))) else (if a0 = 18 then (some (decide (t344 ≥ t345))) else (some false))) else (some true)) else (if a0 = 17 then (if t344 < t345 then (some true) else (if a0 = 18 then (some (decide (t344 ≥ t345))) else (some false))) else (if a0 = 18 then (some (decide (t344 ≥ t345))) else (some false))))))
theorem spliceref04_Taken.mono : ∀ a0 a1 a2 k, LeO (spliceref04_Taken.f k a0 a1 a2) (spliceref04_Taken.f (k + 1) a0 a1 a2) := by
  intro a0 a1 a2 k
  unfold spliceref04_Taken.f
  repeat' first
      | (with_reducible exact spliceref01_Sign.mono _ _ _)
      | (with_reducible exact LeO.refl _)
      | (with_reducible exact LeO.none _)
      | (with_reducible refine LeO.ite ?_ ?_)
      | (with_reducible refine LeO.bind ?_ (fun _ => ?_))
/-! ### spliceref01_Same: function 14 -/
def spliceref01_Same.l0 : Nat → List Int → List Int → Int → Option (Bool)
  | 0, _, _, _ => none
  | k + 1, x0, x1, x5 => if x5 < (x0.length : Int) then (if 0 ≤ x5 then (if x5 < (x1.length : Int) then (if (rd x0 x5) = (rd x1 x5) then (spliceref01_Same.l0 k x0 x1 (wrap64 (x5 + 1))) else (some false)) else (none)) else (none)) else (some true)
def spliceref01_Same.f (k : Nat) (l0 : List Int) (l1 : List Int) : Option (Bool) := if (l0.length : Int) = (l1.length : Int) then (spliceref01_Same.l0 k l0 l1 0) else (some false)
theorem spliceref01_Same.mono_l : ∀ k, (∀ y0 y1 y2, LeO (spliceref01_Same.l0 k y0 y1 y2) (spliceref01_Same.l0 (k + 1) y0 y1 y2))
  | 0 => fun _ _ _ r h => by simp [spliceref01_Same.l0] at h
  | k + 1 => by
    have ih0 := spliceref01_Same.mono_l k
    · intro y0 y1 y2
      unfold spliceref01_Same.l0
      repeat' first
      | (with_reducible exact ih0 _ _ _)
      | (with_reducible exact LeO.refl _)
      | (with_reducible exact LeO.none _)
      | (with_reducible refine LeO.ite ?_ ?_)
      | (with_reducible refine LeO.bind ?_ (fun _ => ?_))
theorem spliceref01_Same.mono : ∀ a0 a1 k, LeO (spliceref01_Same.f k a0 a1) (spliceref01_Same.f (k + 1) a0 a1) := by
  intro a0 a1 k
  have ih0 := spliceref01_Same.mono_l k
  unfold spliceref01_Same.f
  repeat' first
      | (with_reducible exact ih0 _ _ _)
      | (with_reducible exact LeO.refl _)
      | (with_reducible exact LeO.none _)
      | (with_reducible refine LeO.ite ?_ ?_)
      | (with_reducible refine LeO.bind ?_ (fun _ => ?_))
/-! ### spliceref03_Ints: function 30 -/
def spliceref03_Ints.l0 : Nat → List Int → List Int → Int → Option (Bool)
  | 0, _, _, _ => none
  | k + 1, x0, x1, x5 => if x5 < (x0.length : Int) then (if 0 ≤ x5 then (if x5 < (x1.length : Int) then (if (rd x0 x5) = (rd x1 x5) then (spliceref03_Ints.l0 k x0 x1 (wrap64 (x5 + 1))) else (some false)) else (none)) else (none)) else (some true)
def spliceref03_Ints.f (k : Nat) (l0 : List Int) (l1 : List Int) : Option (Bool) := if (l0.length : Int) = (l1.length : Int) then (spliceref03_Ints.l0 k l0 l1 0) else (some false)
theorem spliceref03_Ints.mono_l : ∀ k, (∀ y0 y1 y2, LeO (spliceref03_Ints.l0 k y0 y1 y2) (spliceref03_Ints.l0 (k + 1) y0 y1 y2))
  | 0 => fun _ _ _ r h => by simp [spliceref03_Ints.l0] at h
  | k + 1 => by
    have ih0 := spliceref03_Ints.mono_l k
    · intro y0 y1 y2
      unfold spliceref03_Ints.l0
      repeat' first
      | (with_reducible exact ih0 _ _ _)
      | (with_reducible exact LeO.refl _)
      | (with_reducible exact LeO.none _)
      | (with_reducible refine LeO.ite ?_ ?_)
      | (with_reducible refine LeO.bind ?_ (fun _ => ?_))
theorem spliceref03_Ints.mono : ∀ a0 a1 k, LeO (spliceref03_Ints.f k a0 a1) (spliceref03_Ints.f (k + 1) a0 a1) := by
  intro a0 a1 k
  have ih0 := spliceref03_Ints.mono_l k
  unfold spliceref03_Ints.f
  repeat' first
      | (with_reducible exact ih0 _ _ _)
      | (with_reducible exact LeO.refl _)
      | (with_reducible exact LeO.none _)
      | (with_reducible refine LeO.ite ?_ ?_)
      | (with_reducible refine LeO.bind ?_ (fun _ => ?_))
/-! ### spliceref05_Same: function 31 -/
def spliceref05_Same.f (k : Nat) (a0_0 : Int) (l0_1 : List Int) (a1_0 : Int) (l1_1 : List Int) : Option (Bool) := if a0_0 = a1_0 then ((spliceref01_Same.f k l0_1 l1_1).bind fun t429 => (some t429)) else (some false)
theorem spliceref05_Same.mono : ∀ a0 a1 a2 a3 k, LeO (spliceref05_Same.f k a0 a1 a2 a3) (spliceref05_Same.f (k + 1) a0 a1 a2 a3) := by
  intro a0 a1 a2 a3 k
  unfold spliceref05_Same.f
  repeat' first
      | (with_reducible exact spliceref01_Same.mono _ _ _)
      | (with_reducible exact LeO.refl _)
      | (with_reducible exact LeO.none _)
      | (with_reducible refine LeO.ite ?_ ?_)
      | (with_reducible refine LeO.bind ?_ (fun _ => ?_))
/-! ### spliceref01_Words: function 18 -/
def spliceref01_Words.l0 : Nat → List Int → List Int → Int → Option (Bool)
  | 0, _, _, _ => none
  | k + 1, x0, x1, x5 => if x5 < (x0.length : Int) then (if 0 ≤ x5 then (if x5 < (x1.length : Int) then (if (rd x0 x5) = (rd x1 x5) then (spliceref01_Words.l0 k x0 x1 (wrap64 (x5 + 1))) else (some false)) else (none)) else (none)) else (some true)
def spliceref01_Words.f (k : Nat) (l0 : List Int) (l1 : List Int) : Option (Bool) := if (l0.length : Int) = (l1.length : Int) then (spliceref01_Words.l0 k l0 l1 0) else (some false)
theorem spliceref01_Words.mono_l : ∀ k, (∀ y0 y1 y2, LeO (spliceref01_Words.l0 k y0 y1 y2) (spliceref01_Words.l0 (k + 1) y0 y1 y2))
  | 0 => fun _ _ _ r h => by simp [spliceref01_Words.l0] at h
  | k + 1 => by
    have ih0 := spliceref01_Words.mono_l k
    · intro y0 y1 y2
      unfold spliceref01_Words.l0
      repeat' first
      | (with_reducible exact ih0 _ _ _)
      | (with_reducible exact LeO.refl _)
      | (with_reducible exact LeO.none _)
      | (with_reducible refine LeO.ite ?_ ?_)
      | (with_reducible refine LeO.bind ?_ (fun _ => ?_))
theorem spliceref01_Words.mono : ∀ a0 a1 k, LeO (spliceref01_Words.f k a0 a1) (spliceref01_Words.f (k + 1) a0 a1) := by
  intro a0 a1 k
  have ih0 := spliceref01_Words.mono_l k
  unfold spliceref01_Words.f
  repeat' first
      | (with_reducible exact ih0 _ _ _)
      | (with_reducible exact LeO.refl _)
      | (with_reducible exact LeO.none _)
      | (with_reducible refine LeO.ite ?_ ?_)
      | (with_reducible refine LeO.bind ?_ (fun _ => ?_))

end Go.Proofs.Ytcagccodmmcnfaa.Q
