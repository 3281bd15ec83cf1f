-- Written by drv.py, a program of this session, over the kit's print, out of the translation. Not trusted: Lean checks it.
import Derived.Test.YtcagccodmmcnfaaQD0
import Derived.Test.YtcagccodmmcnfaaQB
namespace Go.Proofs.Ytcagccodmmcnfaa.Q
open Go.RowKit Go.Proofs.YtcagccodmmcnfaaW.PrintWords Go.Proofs.YtcagccodmmcnfaaW.PrintLast Go.Proofs.YtcagccodmmcnfaaW.PrintMore
attribute [local go_sem] max2_int min2_int max_two min_two max_three min_three max_four min_four   -- for this text's walks alone
set_option linter.unusedVariables false
set_option linter.unusedSimpArgs false

theorem haltw_61 {G : Prop} (k : ∀ P : Prop, Aside0 (P = G) → P) : G := k G ⟨rfl⟩
set_option maxHeartbeats 8000000 in
set_option maxRecDepth 100000 in
theorem spliceref04_Taken.calls (k : Nat) (a0 : Int) (a1 : Int) (a2 : Int) (r : Bool) (w : World) (h : spliceref04_Taken.f k a0 a1 a2 = some r) :
    Calls Try.prog 28 #[.int .i64 a0, .int .u32 a1, .int .u32 a2] w fun e w' => e = .returned (.bool r) ∧ Drawn0 w w' := by
 have H : ((spliceref01_Sign.f k a1 32).bind fun t344 => ((spliceref01_Sign.f k a2 32).bind fun t345 => (if a0 = 15 then (if t344 = t345 then (some true) else (if a0 = 16 then (some true) else (if a0 = 17 then (if t344 < t345 then (some true) else (if a0 = 18 then (some (decide (t344 ≥ t345))) else (some false))) else (if a0 = 18 then (some (decide (t344 ≥ t345))) else (some false))))) else (if a0 = 16 then (if t344 = t345 then (if a0 = 17 then (if t344 < t345 then (some true) else (if a0 = 18 then (some (decide (t344 ≥ t345))) else (some false))) else (if a0 = 18 then (some (decide (t344 ≥ t345))) else (some false))) else (some true)) else (if a0 = 17 then (if t344 < t345 then (some true) else (if a0 = 18 then (some (decide (t344 ≥ t345))) else (some false))) else (if a0 = 18 then (some (decide (t344 ≥ t345))) else (some false))))))) = some r := h
 clear h
 replace H := Option.bind_eq_some_iff.mp H
 obtain ⟨t344, A40, H⟩ := H
 try dsimp only at H
 have A4 := Aside0.mk A40
 clear A40
 go_enter Try.func28, Try.ntmps28
 go_wp2_with (first | ((with_reducible refine gate_callee (f := 34) rfl ?_); refine goesL_ (some 10) rfl rfl Try.func34 (by kernel_rfl) rfl #[.int .u32 a1, .int .i64 32] rfl (by (try simp only [List.map_toArray, List.map_cons, List.map_nil]); first | done | rfl | (simp only [List.length_drop, List.length_take]; rfl)) ?_; (with_reducible refine (spliceref01_Sign.calls k a1 32 t344 _ A4.out).mono ?_); rintro e w' ⟨rfl, ⟨nd, rfl⟩⟩; refine ⟨_, rfl, ?_⟩; refine haltw_61 (fun P_ hP_ => ?_)))
 replace H := Option.bind_eq_some_iff.mp H
 obtain ⟨t345, A50, H⟩ := H
 try dsimp only at H
 have A5 := Aside0.mk A50
 clear A50
 refine Eq.mpr hP_.out ?_
 clear hP_ P_
 go_wp2_with (first | ((with_reducible refine gate_callee (f := 34) rfl ?_); refine goesL_ (some 12) rfl rfl Try.func34 (by kernel_rfl) rfl #[.int .u32 a2, .int .i64 32] rfl (by (try simp only [List.map_toArray, List.map_cons, List.map_nil]); first | done | rfl | (simp only [List.length_drop, List.length_take]; rfl)) ?_; (with_reducible refine (spliceref01_Sign.calls k a2 32 t345 _ A5.out).mono ?_); rintro e w' ⟨rfl, ⟨nd, rfl⟩⟩; refine ⟨_, rfl, ?_⟩; refine haltw_61 (fun P_ hP_ => ?_)))
 by_cases c6 : a0 = 15
 ·
  rw [if_pos c6] at H
  have c6b0 : (a0 == 15) = true := beq_iff_eq.mpr c6
  have c6b1 : (a0 != 15) = false := bne_eq_false_iff_eq.mpr c6
  clear c6
  by_cases c7 : t344 = t345
  ·
   rw [if_pos c7] at H
   have c7b0 : (t344 == t345) = true := beq_iff_eq.mpr c7
   have c7b1 : (t344 != t345) = false := bne_eq_false_iff_eq.mpr c7
   clear c7
   obtain rfl := Option.some.inj H
   refine Eq.mpr hP_.out ?_
   clear hP_ P_
   go_wp2_with fail
   go_ret
   exact ⟨by first | rfl | (simp; done) | (simp [*]; done), by repeat (first | exact Drawn0.refl _ | apply Drawn0.step)⟩
  ·
   rw [if_neg c7] at H
   have c7b0 : (t344 == t345) = false := beq_eq_false_iff_ne.mpr c7
   have c7b1 : (t344 != t345) = true := bne_iff_ne.mpr c7
   by_cases c8 : a0 = 16
   ·
    rw [if_pos c8] at H
    have c8b0 : (a0 == 16) = true := beq_iff_eq.mpr c8
    have c8b1 : (a0 != 16) = false := bne_eq_false_iff_eq.mpr c8
    clear c8
    obtain rfl := Option.some.inj H
    refine Eq.mpr hP_.out ?_
    clear hP_ P_
    go_wp2_with fail
    go_ret
    exact ⟨by first | rfl | (simp; done) | (simp [*]; done), by repeat (first | exact Drawn0.refl _ | apply Drawn0.step)⟩
   ·
    rw [if_neg c8] at H
    have c8b0 : (a0 == 16) = false := beq_eq_false_iff_ne.mpr c8
    have c8b1 : (a0 != 16) = true := bne_iff_ne.mpr c8
    by_cases c9 : a0 = 17
    ·
     rw [if_pos c9] at H
     have c9b0 : (a0 == 17) = true := beq_iff_eq.mpr c9
     have c9b1 : (a0 != 17) = false := bne_eq_false_iff_eq.mpr c9
     clear c9
     by_cases c10 : t344 < t345
     ·
      rw [if_pos c10] at H
      have c10b0 : decide (t344 < t345) = true := decide_eq_true c10
      clear c10
      obtain rfl := Option.some.inj H
      refine Eq.mpr hP_.out ?_
      clear hP_ P_
      go_wp2_with fail
      go_ret
      exact ⟨by first | rfl | (simp; done) | (simp [*]; done), by repeat (first | exact Drawn0.refl _ | apply Drawn0.step)⟩
     ·
      rw [if_neg c10] at H
      have c10b0 : decide (t344 < t345) = false := decide_eq_false c10
      clear c10
      by_cases c11 : a0 = 18
      ·
       rw [if_pos c11] at H
       have c11b0 : (a0 == 18) = true := beq_iff_eq.mpr c11
       have c11b1 : (a0 != 18) = false := bne_eq_false_iff_eq.mpr c11
       clear c11
       obtain rfl := Option.some.inj H
       refine Eq.mpr hP_.out ?_
       clear hP_ P_
       go_wp2_with fail
       go_ret
       exact ⟨by first | rfl | (simp; done) | (simp [*]; done), by repeat (first | exact Drawn0.refl _ | apply Drawn0.step)⟩
      ·
       rw [if_neg c11] at H
       have c11b0 : (a0 == 18) = false := beq_eq_false_iff_ne.mpr c11
       have c11b1 : (a0 != 18) = true := bne_iff_ne.mpr c11
       obtain rfl := Option.some.inj H
       refine Eq.mpr hP_.out ?_
       clear hP_ P_
       go_wp2_with fail
       go_ret
       exact ⟨by first | rfl | (simp; done) | (simp [*]; done), by repeat (first | exact Drawn0.refl _ | apply Drawn0.step)⟩
    ·
     rw [if_neg c9] at H
     have c9b0 : (a0 == 17) = false := beq_eq_false_iff_ne.mpr c9
     have c9b1 : (a0 != 17) = true := bne_iff_ne.mpr c9
     by_cases c12 : a0 = 18
     ·
      rw [if_pos c12] at H
      have c12b0 : (a0 == 18) = true := beq_iff_eq.mpr c12
      have c12b1 : (a0 != 18) = false := bne_eq_false_iff_eq.mpr c12
      clear c12
      obtain rfl := Option.some.inj H
      refine Eq.mpr hP_.out ?_
      clear hP_ P_
      go_wp2_with fail
      go_ret
      exact ⟨by first | rfl | (simp; done) | (simp [*]; done), by repeat (first | exact Drawn0.refl _ | apply Drawn0.step)⟩
     ·
      rw [if_neg c12] at H
      have c12b0 : (a0 == 18) = false := beq_eq_false_iff_ne.mpr c12
      have c12b1 : (a0 != 18) = true := bne_iff_ne.mpr c12
      obtain rfl := Option.some.inj H
      refine Eq.mpr hP_.out ?_
      clear hP_ P_
      go_wp2_with fail
      go_ret
      exact ⟨by first | rfl | (simp; done) | (simp [*]; done), by repeat (first | exact Drawn0.refl _ | apply Drawn0.step)⟩
 ·
  rw [if_neg c6] at H
  have c6b0 : (a0 == 15) = false := beq_eq_false_iff_ne.mpr c6
  have c6b1 : (a0 != 15) = true := bne_iff_ne.mpr c6
  by_cases c13 : a0 = 16
  ·
   rw [if_pos c13] at H
   have c13b0 : (a0 == 16) = true := beq_iff_eq.mpr c13
   have c13b1 : (a0 != 16) = false := bne_eq_false_iff_eq.mpr c13
   clear c13
   by_cases c14 : t344 = t345
   ·
    rw [if_pos c14] at H
    have c14b0 : (t344 == t345) = true := beq_iff_eq.mpr c14
    have c14b1 : (t344 != t345) = false := bne_eq_false_iff_eq.mpr c14
    clear c14
    by_cases c15 : a0 = 17
    ·
     rw [if_pos c15] at H
     have c15b0 : (a0 == 17) = true := beq_iff_eq.mpr c15
     have c15b1 : (a0 != 17) = false := bne_eq_false_iff_eq.mpr c15
     clear c15
     by_cases c16 : t344 < t345
     ·
      rw [if_pos c16] at H
      have c16b0 : decide (t344 < t345) = true := decide_eq_true c16
      clear c16
      obtain rfl := Option.some.inj H
      refine Eq.mpr hP_.out ?_
      clear hP_ P_
      go_wp2_with fail
      go_ret
      exact ⟨by first | rfl | (simp; done) | (simp [*]; done), by repeat (first | exact Drawn0.refl _ | apply Drawn0.step)⟩
     ·
      rw [if_neg c16] at H
      have c16b0 : decide (t344 < t345) = false := decide_eq_false c16
      clear c16
      by_cases c17 : a0 = 18
      ·
       rw [if_pos c17] at H
       have c17b0 : (a0 == 18) = true := beq_iff_eq.mpr c17
       have c17b1 : (a0 != 18) = false := bne_eq_false_iff_eq.mpr c17
       clear c17
       obtain rfl := Option.some.inj H
       refine Eq.mpr hP_.out ?_
       clear hP_ P_
       go_wp2_with fail
       go_ret
       exact ⟨by first | rfl | (simp; done) | (simp [*]; done), by repeat (first | exact Drawn0.refl _ | apply Drawn0.step)⟩
      ·
       rw [if_neg c17] at H
       have c17b0 : (a0 == 18) = false := beq_eq_false_iff_ne.mpr c17
       have c17b1 : (a0 != 18) = true := bne_iff_ne.mpr c17
       obtain rfl := Option.some.inj H
       refine Eq.mpr hP_.out ?_
       clear hP_ P_
       go_wp2_with fail
       go_ret
       exact ⟨by first | rfl | (simp; done) | (simp [*]; done), by repeat (first | exact Drawn0.refl _ | apply Drawn0.step)⟩
    ·
     rw [if_neg c15] at H
     have c15b0 : (a0 == 17) = false := beq_eq_false_iff_ne.mpr c15
     have c15b1 : (a0 != 17) = true := bne_iff_ne.mpr c15
     by_cases c18 : a0 = 18
     ·
      rw [if_pos c18] at H
      have c18b0 : (a0 == 18) = true := beq_iff_eq.mpr c18
      have c18b1 : (a0 != 18) = false := bne_eq_false_iff_eq.mpr c18
      clear c18
      obtain rfl := Option.some.inj H
      refine Eq.mpr hP_.out ?_
      clear hP_ P_
      go_wp2_with fail
      go_ret
      exact ⟨by first | rfl | (simp; done) | (simp [*]; done), by repeat (first | exact Drawn0.refl _ | apply Drawn0.step)⟩
     ·
      rw [if_neg c18] at H
      have c18b0 : (a0 == 18) = false := beq_eq_false_iff_ne.mpr c18
      have c18b1 : (a0 != 18) = true := bne_iff_ne.mpr c18
      obtain rfl := Option.some.inj H
      refine Eq.mpr hP_.out ?_
      clear hP_ P_
      go_wp2_with fail
      go_ret
      exact ⟨by first | rfl | (simp; done) | (simp [*]; done), by repeat (first | exact Drawn0.refl _ | apply Drawn0.step)⟩
   ·
    rw [if_neg c14] at H
    have c14b0 : (t344 == t345) = false := beq_eq_false_iff_ne.mpr c14
    have c14b1 : (t344 != t345) = true := bne_iff_ne.mpr c14
    obtain rfl := Option.some.inj H
    refine Eq.mpr hP_.out ?_
    clear hP_ P_
    go_wp2_with fail
    go_ret
    exact ⟨by first | rfl | (simp; done) | (simp [*]; done), by repeat (first | exact Drawn0.refl _ | apply Drawn0.step)⟩
  ·
   rw [if_neg c13] at H
   have c13b0 : (a0 == 16) = false := beq_eq_false_iff_ne.mpr c13
   have c13b1 : (a0 != 16) = true := bne_iff_ne.mpr c13
   by_cases c19 : a0 = 17
   ·
    rw [if_pos c19] at H
    have c19b0 : (a0 == 17) = true := beq_iff_eq.mpr c19
    have c19b1 : (a0 != 17) = false := bne_eq_false_iff_eq.mpr c19
    clear c19
    by_cases c20 : t344 < t345
    ·
     rw [if_pos c20] at H
     have c20b0 : decide (t344 < t345) = true := decide_eq_true c20
     clear c20
     obtain rfl := Option.some.inj H
     refine Eq.mpr hP_.out ?_
     clear hP_ P_
     go_wp2_with fail
     go_ret
     exact ⟨by first | rfl | (simp; done) | (simp [*]; done), by repeat (first | exact Drawn0.refl _ | apply Drawn0.step)⟩
    ·
     rw [if_neg c20] at H
     have c20b0 : decide (t344 < t345) = false := decide_eq_false c20
     clear c20
     by_cases c21 : a0 = 18
     ·
      rw [if_pos c21] at H
      have c21b0 : (a0 == 18) = true := beq_iff_eq.mpr c21
      have c21b1 : (a0 != 18) = false := bne_eq_false_iff_eq.mpr c21
      clear c21
      obtain rfl := Option.some.inj H
      refine Eq.mpr hP_.out ?_
      clear hP_ P_
      go_wp2_with fail
      go_ret
      exact ⟨by first | rfl | (simp; done) | (simp [*]; done), by repeat (first | exact Drawn0.refl _ | apply Drawn0.step)⟩
     ·
      rw [if_neg c21] at H
      have c21b0 : (a0 == 18) = false := beq_eq_false_iff_ne.mpr c21
      have c21b1 : (a0 != 18) = true := bne_iff_ne.mpr c21
      obtain rfl := Option.some.inj H
      refine Eq.mpr hP_.out ?_
      clear hP_ P_
      go_wp2_with fail
      go_ret
      exact ⟨by first | rfl | (simp; done) | (simp [*]; done), by repeat (first | exact Drawn0.refl _ | apply Drawn0.step)⟩
   ·
    rw [if_neg c19] at H
    have c19b0 : (a0 == 17) = false := beq_eq_false_iff_ne.mpr c19
    have c19b1 : (a0 != 17) = true := bne_iff_ne.mpr c19
    by_cases c22 : a0 = 18
    ·
     rw [if_pos c22] at H
     have c22b0 : (a0 == 18) = true := beq_iff_eq.mpr c22
     have c22b1 : (a0 != 18) = false := bne_eq_false_iff_eq.mpr c22
     clear c22
     obtain rfl := Option.some.inj H
     refine Eq.mpr hP_.out ?_
     clear hP_ P_
     go_wp2_with fail
     go_ret
     exact ⟨by first | rfl | (simp; done) | (simp [*]; done), by repeat (first | exact Drawn0.refl _ | apply Drawn0.step)⟩
    ·
     rw [if_neg c22] at H
     have c22b0 : (a0 == 18) = false := beq_eq_false_iff_ne.mpr c22
     have c22b1 : (a0 != 18) = true := bne_iff_ne.mpr c22
     obtain rfl := Option.some.inj H
     refine Eq.mpr hP_.out ?_
     clear hP_ P_
     go_wp2_with fail
     go_ret
     exact ⟨by first | rfl | (simp; done) | (simp [*]; done), by repeat (first | exact Drawn0.refl _ | apply Drawn0.step)⟩

end Go.Proofs.Ytcagccodmmcnfaa.Q
