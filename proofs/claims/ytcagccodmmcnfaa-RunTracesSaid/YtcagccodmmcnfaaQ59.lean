-- Written by drv.py, a program of this session, over the kit's print, out of the translation. Not trusted: Lean checks it.
import Derived.Test.YtcagccodmmcnfaaQD0
import Derived.Test.YtcagccodmmcnfaaHcbd
namespace Go.Proofs.Ytcagccodmmcnfaa.Q
open Go.RowKit Go.Proofs.YtcagccodmmcnfaaW.PrintWords Go.Proofs.YtcagccodmmcnfaaW.PrintLast Go.Proofs.YtcagccodmmcnfaaW.PrintMore
attribute [local go_sem] max2_int min2_int max_two min_two max_three min_three max_four min_four   -- for this text's walks alone
set_option linter.unusedVariables false
set_option linter.unusedSimpArgs false

set_option maxHeartbeats 8000000 in
set_option maxRecDepth 100000 in
theorem spliceref04_bitwise.calls (k : Nat) (a0 : Int) (a1 : Int) (a2 : Int) (r : Int) (w : World) (h : spliceref04_bitwise.f k a0 a1 a2 = some r) :
    Calls Try.prog 43 #[.int .u32 a0, .int .u32 a1, .int .i64 a2] w fun e w' => e = .returned (.int .u32 r) ∧ Drawn0 w w' := by
 have H : (spliceref04_bitwise.l0 k a0 a1 a2 0 31) = some r := h
 clear h
 have H' := Aside0.mk H
 clear H
 go_enter Try.func43, Try.ntmps43
 go_wp2
 go_loopg [7, 8] k (fun kq v7 v8 w' => ∃ (x7_1 : Int) (x8_1 : Int), v7 = .int .i64 x7_1 ∧ v8 = .int .i64 x8_1 ∧ Aside0 (spliceref04_bitwise.l0 kq a0 a1 a2 x7_1 x8_1 = some r) ∧ Aside0 (kq ≤ k) ∧ Aside0 (x8_1 ≤ 31) ∧ Drawn0 w w')
 case atStart => exact ⟨(0), (31), (by first | rfl | (simp; done) | (simp [*]; done)), (by first | rfl | (simp; done) | (simp [*]; done)), H', ⟨Nat.le_refl _⟩, ⟨by decide⟩, by repeat (first | exact Drawn0.refl _ | apply Drawn0.step)⟩
 case round =>
  clear H'
  (try clear p2)
  obtain ⟨x7_1, x8_1, rfl, rfl, HA, HK1, hx31, ⟨m1, rfl⟩⟩ := hrel
  cases gk with
  | zero => exact absurd HA.out (by simp [spliceref04_bitwise.l0])
  | succ k1 =>
   have H := HA.out
   clear HA
   simp only [spliceref04_bitwise.l0] at H
   by_cases c4 : x8_1 ≥ 0
   ·
    rw [if_pos c4] at H
    have c4b0 : decide (0 ≤ x8_1) = true := decide_eq_true c4
    clear c4
    obtain ⟨ji5, hji5⟩ : ∃ j_ : Int, (IntKind.u64.wrap (x8_1)) = j_ := ⟨_, rfl⟩
    have hj32 : Aside0 (ji5 ≤ 32) := ⟨by have h1 := hx31.out; have h2 : 0 ≤ x8_1 := of_decide_eq_true c4b0; rw [← hji5, Lib.wrap_u64]; omega⟩
    have hx30 : Aside0 (wrap64 (x8_1 - 1) ≤ 31) := ⟨by have h1 := hx31.out; have h2 : 0 ≤ x8_1 := of_decide_eq_true c4b0; unfold wrap64; omega⟩
    replace H : (if 0 ≤ (ji5) then (if a2 = 1 then (if a2 = 2 then (spliceref04_bitwise.l0 k1 a0 a1 a2 (wrap64 ((wrap64 (2 * x7_1)) + (Int.tmod (wrap64 ((Int.tmod (wrap64 (shr .u32 a0 (ji5))) 2) + (Int.tmod (wrap64 (shr .u32 a1 (ji5))) 2))) 2))) (wrap64 (x8_1 - 1))) else (spliceref04_bitwise.l0 k1 a0 a1 a2 (wrap64 ((wrap64 (2 * x7_1)) + (wrap64 ((wrap64 ((Int.tmod (wrap64 (shr .u32 a0 (ji5))) 2) + (Int.tmod (wrap64 (shr .u32 a1 (ji5))) 2))) - (wrap64 ((Int.tmod (wrap64 (shr .u32 a0 (ji5))) 2) * (Int.tmod (wrap64 (shr .u32 a1 (ji5))) 2))))))) (wrap64 (x8_1 - 1)))) else (if a2 = 2 then (spliceref04_bitwise.l0 k1 a0 a1 a2 (wrap64 ((wrap64 (2 * x7_1)) + (Int.tmod (wrap64 ((Int.tmod (wrap64 (shr .u32 a0 (ji5))) 2) + (Int.tmod (wrap64 (shr .u32 a1 (ji5))) 2))) 2))) (wrap64 (x8_1 - 1))) else (spliceref04_bitwise.l0 k1 a0 a1 a2 (wrap64 ((wrap64 (2 * x7_1)) + (wrap64 ((Int.tmod (wrap64 (shr .u32 a0 (ji5))) 2) * (Int.tmod (wrap64 (shr .u32 a1 (ji5))) 2))))) (wrap64 (x8_1 - 1))))) else (none)) = some r := by first | (rw [hji5] at H; exact H) | (simp only [hji5] at H ⊢; exact H)
    by_cases c6 : 0 ≤ (ji5)
    ·
     rw [if_pos c6] at H
     have c6b0 := eq_true c6
     have c6b1 : decide (0 ≤ (ji5)) = true := decide_eq_true c6
     clear c6
     obtain ⟨ji7, hji7⟩ : ∃ j_ : Int, (shr .u32 a0 (ji5)) = j_ := ⟨_, rfl⟩
     replace H : (if a2 = 1 then (if a2 = 2 then (spliceref04_bitwise.l0 k1 a0 a1 a2 (wrap64 ((wrap64 (2 * x7_1)) + (Int.tmod (wrap64 ((Int.tmod (wrap64 (ji7)) 2) + (Int.tmod (wrap64 (shr .u32 a1 (ji5))) 2))) 2))) (wrap64 (x8_1 - 1))) else (spliceref04_bitwise.l0 k1 a0 a1 a2 (wrap64 ((wrap64 (2 * x7_1)) + (wrap64 ((wrap64 ((Int.tmod (wrap64 (ji7)) 2) + (Int.tmod (wrap64 (shr .u32 a1 (ji5))) 2))) - (wrap64 ((Int.tmod (wrap64 (ji7)) 2) * (Int.tmod (wrap64 (shr .u32 a1 (ji5))) 2))))))) (wrap64 (x8_1 - 1)))) else (if a2 = 2 then (spliceref04_bitwise.l0 k1 a0 a1 a2 (wrap64 ((wrap64 (2 * x7_1)) + (Int.tmod (wrap64 ((Int.tmod (wrap64 (ji7)) 2) + (Int.tmod (wrap64 (shr .u32 a1 (ji5))) 2))) 2))) (wrap64 (x8_1 - 1))) else (spliceref04_bitwise.l0 k1 a0 a1 a2 (wrap64 ((wrap64 (2 * x7_1)) + (wrap64 ((Int.tmod (wrap64 (ji7)) 2) * (Int.tmod (wrap64 (shr .u32 a1 (ji5))) 2))))) (wrap64 (x8_1 - 1))))) = some r := by first | (rw [hji7] at H; exact H) | (simp only [hji7] at H ⊢; exact H)
     have hji7_ : (a0 / 2 ^ min (ji5).toNat 32) = ji7 := hji7
     have hji7z : (ji5) ≤ 32 → (a0 / 2 ^ (ji5).toNat) = ji7 := shr_small hji7
     have c8b0 := eq_true (of_decide_eq_true (by first | (with_reducible assumption) | assumption) : 0 ≤ (ji5))
     obtain ⟨ji9, hji9⟩ : ∃ j_ : Int, (shr .u32 a1 (ji5)) = j_ := ⟨_, rfl⟩
     replace H : (if a2 = 1 then (if a2 = 2 then (spliceref04_bitwise.l0 k1 a0 a1 a2 (wrap64 ((wrap64 (2 * x7_1)) + (Int.tmod (wrap64 ((Int.tmod (wrap64 (ji7)) 2) + (Int.tmod (wrap64 (ji9)) 2))) 2))) (wrap64 (x8_1 - 1))) else (spliceref04_bitwise.l0 k1 a0 a1 a2 (wrap64 ((wrap64 (2 * x7_1)) + (wrap64 ((wrap64 ((Int.tmod (wrap64 (ji7)) 2) + (Int.tmod (wrap64 (ji9)) 2))) - (wrap64 ((Int.tmod (wrap64 (ji7)) 2) * (Int.tmod (wrap64 (ji9)) 2))))))) (wrap64 (x8_1 - 1)))) else (if a2 = 2 then (spliceref04_bitwise.l0 k1 a0 a1 a2 (wrap64 ((wrap64 (2 * x7_1)) + (Int.tmod (wrap64 ((Int.tmod (wrap64 (ji7)) 2) + (Int.tmod (wrap64 (ji9)) 2))) 2))) (wrap64 (x8_1 - 1))) else (spliceref04_bitwise.l0 k1 a0 a1 a2 (wrap64 ((wrap64 (2 * x7_1)) + (wrap64 ((Int.tmod (wrap64 (ji7)) 2) * (Int.tmod (wrap64 (ji9)) 2))))) (wrap64 (x8_1 - 1))))) = some r := by first | (rw [hji9] at H; exact H) | (simp only [hji9] at H ⊢; exact H)
     have hji9_ : (a1 / 2 ^ min (ji5).toNat 32) = ji9 := hji9
     have hji9z : (ji5) ≤ 32 → (a1 / 2 ^ (ji5).toNat) = ji9 := shr_small hji9
     by_cases c10 : a2 = 1
     ·
      rw [if_pos c10] at H
      have c10b0 : (a2 == 1) = true := beq_iff_eq.mpr c10
      have c10b1 : (a2 != 1) = false := bne_eq_false_iff_eq.mpr c10
      clear c10
      by_cases c11 : a2 = 2
      ·
       rw [if_pos c11] at H
       have c11b0 : (a2 == 2) = true := beq_iff_eq.mpr c11
       have c11b1 : (a2 != 2) = false := bne_eq_false_iff_eq.mpr c11
       clear c11
       have H' := Aside0.mk H
       clear H
       go_wp2
       go_roundg k1
       case measure => have := HK1.out; omega
       case rel => exact ⟨(wrap64 ((wrap64 (2 * x7_1)) + (Int.tmod (wrap64 ((Int.tmod (wrap64 (ji7)) 2) + (Int.tmod (wrap64 (ji9)) 2))) 2))), (wrap64 (x8_1 - 1)), (by first | (rw [hji7z hj32.out, hji9z hj32.out]; done) | rfl | (simp; done) | (simp only [← hji7, ← hji9] <;> (first | rfl | simp)) | (simp [*]; done)), (by first | rfl | (simp; done) | (simp [*]; done)), H', ⟨by have := HK1.out; omega⟩, hx30, by repeat (first | exact Drawn0.refl _ | apply Drawn0.step)⟩
      ·
       rw [if_neg c11] at H
       have c11b0 : (a2 == 2) = false := beq_eq_false_iff_ne.mpr c11
       have c11b1 : (a2 != 2) = true := bne_iff_ne.mpr c11
       have H' := Aside0.mk H
       clear H
       go_wp2
       go_roundg k1
       case measure => have := HK1.out; omega
       case rel => exact ⟨(wrap64 ((wrap64 (2 * x7_1)) + (wrap64 ((wrap64 ((Int.tmod (wrap64 (ji7)) 2) + (Int.tmod (wrap64 (ji9)) 2))) - (wrap64 ((Int.tmod (wrap64 (ji7)) 2) * (Int.tmod (wrap64 (ji9)) 2))))))), (wrap64 (x8_1 - 1)), (by first | (rw [hji7z hj32.out, hji9z hj32.out]; done) | rfl | (simp; done) | (simp only [← hji7, ← hji9] <;> (first | rfl | simp)) | (simp [*]; done)), (by first | rfl | (simp; done) | (simp [*]; done)), H', ⟨by have := HK1.out; omega⟩, hx30, by repeat (first | exact Drawn0.refl _ | apply Drawn0.step)⟩
     ·
      rw [if_neg c10] at H
      have c10b0 : (a2 == 1) = false := beq_eq_false_iff_ne.mpr c10
      have c10b1 : (a2 != 1) = true := bne_iff_ne.mpr c10
      by_cases c12 : a2 = 2
      ·
       rw [if_pos c12] at H
       have c12b0 : (a2 == 2) = true := beq_iff_eq.mpr c12
       have c12b1 : (a2 != 2) = false := bne_eq_false_iff_eq.mpr c12
       clear c12
       have H' := Aside0.mk H
       clear H
       go_wp2
       go_roundg k1
       case measure => have := HK1.out; omega
       case rel => exact ⟨(wrap64 ((wrap64 (2 * x7_1)) + (Int.tmod (wrap64 ((Int.tmod (wrap64 (ji7)) 2) + (Int.tmod (wrap64 (ji9)) 2))) 2))), (wrap64 (x8_1 - 1)), (by first | (rw [hji7z hj32.out, hji9z hj32.out]; done) | rfl | (simp; done) | (simp only [← hji7, ← hji9] <;> (first | rfl | simp)) | (simp [*]; done)), (by first | rfl | (simp; done) | (simp [*]; done)), H', ⟨by have := HK1.out; omega⟩, hx30, by repeat (first | exact Drawn0.refl _ | apply Drawn0.step)⟩
      ·
       rw [if_neg c12] at H
       have c12b0 : (a2 == 2) = false := beq_eq_false_iff_ne.mpr c12
       have c12b1 : (a2 != 2) = true := bne_iff_ne.mpr c12
       have H' := Aside0.mk H
       clear H
       go_wp2
       go_roundg k1
       case measure => have := HK1.out; omega
       case rel => exact ⟨(wrap64 ((wrap64 (2 * x7_1)) + (wrap64 ((Int.tmod (wrap64 (ji7)) 2) * (Int.tmod (wrap64 (ji9)) 2))))), (wrap64 (x8_1 - 1)), (by first | (rw [hji7z hj32.out, hji9z hj32.out]; done) | rfl | (simp; done) | (simp only [← hji7, ← hji9] <;> (first | rfl | simp)) | (simp [*]; done)), (by first | rfl | (simp; done) | (simp [*]; done)), H', ⟨by have := HK1.out; omega⟩, hx30, by repeat (first | exact Drawn0.refl _ | apply Drawn0.step)⟩
    ·
     rw [if_neg c6] at H
     exact absurd H (by simp)
   ·
    rw [if_neg c4] at H
    have c4b0 : decide (0 ≤ x8_1) = false := decide_eq_false c4
    clear c4
    obtain rfl := Option.some.inj H
    go_wp2
    go_ret
    exact ⟨by first | rfl | (simp; done) | (simp [*]; done), by repeat (first | exact Drawn0.refl _ | apply Drawn0.step)⟩

end Go.Proofs.Ytcagccodmmcnfaa.Q
