/- What the reference's step reckons: Load, Do; what a step keeps. Plain laws. Own work; a template. -/
import Derived.Test.YtcagccodmmcnfaaPureStep
namespace Go.Proofs.Ytcagccodmmcnfaa.Cpu
open Go.RowKit Go.Proofs.YtcagccodmmcnfaaW.PrintWords Go.Proofs.YtcagccodmmcnfaaW.PrintLast Go.Proofs.YtcagccodmmcnfaaW.PrintMore Go.Proofs.Ytcagccodmmcnfaa.Hp Go.Proofs.Ytcagccodmmcnfaa.Q Go.Proofs.Ytcagccodmmcnfaa.Code
set_option linter.unusedVariables false
set_option linter.unusedSimpArgs false
abbrev B8 (x : Int) : Prop := 0 ≤ x ∧ x ≤ 255
theorem get4_f (b0 b1 b2 b3 : Int) (h0 : B8 b0) (h1 : B8 b1) (h2 : B8 b2) (h3 : B8 b3) : bits_Get.f 9 [b0, b1, b2, b3] = some (b0 + 256 * b1 + 65536 * b2 + 16777216 * b3) := by
  have e0 : wrap64 (8 * 0) = 0 := by decide +kernel
  have e1 : wrap64 (8 * 1) = 8 := by decide +kernel
  have e2 : wrap64 (8 * 2) = 16 := by decide +kernel
  have e3 : wrap64 (8 * 3) = 24 := by decide +kernel
  have s0 : shl .u32 (b0 % 4294967296) 0 = b0 := by
    have hz := Lib.shl_val .u32 (b0 % 4294967296) 0 0 (by decide)
    rw [IntKind.wrap_u32] at hz
    unfold B8 at h0
    exact hz.trans (by omega)
  have s1 : shl .u32 (b1 % 4294967296) 8 = 256 * b1 := by rw [show (8 : Int) = ((8 : Nat) : Int) from rfl, Lib.shl_val .u32 _ 8 8 (by decide), IntKind.wrap_u32]; omega
  have s2 : shl .u32 (b2 % 4294967296) 16 = 65536 * b2 := by rw [show (16 : Int) = ((16 : Nat) : Int) from rfl, Lib.shl_val .u32 _ 16 16 (by decide), IntKind.wrap_u32]; omega
  have s3 : shl .u32 (b3 % 4294967296) 24 = 16777216 * b3 := by rw [show (24 : Int) = ((24 : Nat) : Int) from rfl, Lib.shl_val .u32 _ 24 24 (by decide), IntKind.wrap_u32]; omega
  have join' : ∀ (i : Nat) (x y : Int), 0 ≤ y → y % 2 ^ i = 0 → y < 4294967296 → 0 ≤ x → x < 2 ^ i → x < 4294967296 → Go.bits .or .u32 x y = x + y := fun i x y a b c d e f => by
    have h := Lib.join32 i a b c d e f
    have hc : Go.bits .or .u32 x y = Go.bits .or .u32 y x := by
      obtain ⟨p, rfl⟩ := Int.eq_ofNat_of_zero_le d
      obtain ⟨q, rfl⟩ := Int.eq_ofNat_of_zero_le a
      have hp : p < 4294967296 := by omega
      have hq : q < 4294967296 := by omega
      rw [(bits_u32 p q hp hq).2.1, (bits_u32 q p hq hp).2.1]
      unfold bitG
      rw [if_neg (by decide), if_pos rfl, if_neg (by decide), if_pos rfl, Nat.or_comm]
    rw [hc, h]
    omega
  have r0 : rd [b0, b1, b2, b3] 0 = b0 := rfl
  have r1 : rd [b0, b1, b2, b3] 1 = b1 := rfl
  have r2 : rd [b0, b1, b2, b3] 2 = b2 := rfl
  have r3 : rd [b0, b1, b2, b3] 3 = b3 := rfl
  unfold bits_Get.f
  have hm : mn 4 (([b0, b1, b2, b3] : List Int).length : Int) = 4 := by simp [mn]
  rw [hm]
  have w1 : wrap64 (0 + 1) = 1 := by decide +kernel
  have w2 : wrap64 (1 + 1) = 2 := by decide +kernel
  have w3 : wrap64 (2 + 1) = 3 := by decide +kernel
  have w4 : wrap64 (3 + 1) = 4 := by decide +kernel
  simp only [bits_Get.l0, e0, e1, e2, e3, s0, s1, s2, s3, r0, r1, r2, r3, w1, w2, w3, w4, List.length_cons, List.length_nil]
  unfold B8 at h0 h1 h2 h3
  have o0 : Go.bits .or .u32 0 b0 = b0 := by
    have := join' 0 0 b0 h0.1 (by omega) (by omega) (by omega) (by omega) (by omega)
    omega
  rw [o0, join' 8 b0 (256 * b1) (by omega) (by omega) (by omega) (by omega) (by omega) (by omega)]
  rw [join' 16 (b0 + 256 * b1) (65536 * b2) (by omega) (by omega) (by omega) (by omega) (by omega) (by omega)]
  rw [join' 24 (b0 + 256 * b1 + 65536 * b2) (16777216 * b3) (by omega) (by omega) (by omega) (by omega) (by omega) (by omega)]
  simp
theorem get1_f (b0 : Int) (h0 : B8 b0) : bits_Get.f 9 [b0] = some b0 := by
  have e0 : wrap64 (8 * 0) = 0 := by decide +kernel
  have s0 : shl .u32 (b0 % 4294967296) 0 = b0 := by
    have hz := Lib.shl_val .u32 (b0 % 4294967296) 0 0 (by decide)
    rw [IntKind.wrap_u32] at hz
    unfold B8 at h0
    exact hz.trans (by omega)
  have r0 : rd [b0] 0 = b0 := rfl
  have w1 : wrap64 (0 + 1) = 1 := by decide +kernel
  have o0 : Go.bits .or .u32 0 b0 = b0 := by
    unfold B8 at h0
    obtain ⟨q, rfl⟩ := Int.eq_ofNat_of_zero_le h0.1
    have := (bits_u32 0 q (by decide) (by omega)).2.1
    rw [show ((0 : Nat) : Int) = 0 from rfl] at this
    rw [this]
    unfold bitG
    rw [if_neg (by decide), if_pos rfl, Nat.zero_or]
  unfold bits_Get.f
  have hm : mn 4 (([b0] : List Int).length : Int) = 1 := by simp [mn]
  rw [hm]
  simp only [bits_Get.l0, e0, s0, r0, w1, List.length_cons, List.length_nil, o0]
  simp
theorem rget4_f (b0 b1 b2 b3 : Int) (h0 : B8 b0) (h1 : B8 b1) (h2 : B8 b2) (h3 : B8 b3) : spliceref01_Get.f 9 [b0, b1, b2, b3] = some (b0 + 256 * b1 + 65536 * b2 + 16777216 * b3) := by
  unfold B8 at h0 h1 h2 h3
  have r0 : rd [b0, b1, b2, b3] 0 = b0 := rfl
  have r1 : rd [b0, b1, b2, b3] 1 = b1 := rfl
  have r2 : rd [b0, b1, b2, b3] 2 = b2 := rfl
  have r3 : rd [b0, b1, b2, b3] 3 = b3 := rfl
  have w1 : wrap64 (3 - 1) = 2 := by decide +kernel
  have w2 : wrap64 (2 - 1) = 1 := by decide +kernel
  have w3 : wrap64 (1 - 1) = 0 := by decide +kernel
  have w4 : wrap64 (0 - 1) = -1 := by decide +kernel
  have v : ∀ x : Int, 0 ≤ x → x ≤ 4294967295 * 256 → wrap64 x = x := fun x a b => by unfold wrap64; omega
  unfold spliceref01_Get.f
  simp only [spliceref01_Get.l0, r0, r1, r2, r3, w1, w2, w3, w4, List.length_cons, List.length_nil]
  rw [v (256 * 0) (by omega) (by omega), v b3 (by omega) (by omega), v (256 * 0 + b3) (by omega) (by omega), v (256 * (256 * 0 + b3)) (by omega) (by omega), v b2 (by omega) (by omega), v (256 * (256 * 0 + b3) + b2) (by omega) (by omega), v (256 * (256 * (256 * 0 + b3) + b2)) (by omega) (by omega), v b1 (by omega) (by omega), v (256 * (256 * (256 * 0 + b3) + b2) + b1) (by omega) (by omega), v (256 * (256 * (256 * (256 * 0 + b3) + b2) + b1)) (by omega) (by omega), v b0 (by omega) (by omega), v (256 * (256 * (256 * (256 * 0 + b3) + b2) + b1) + b0) (by omega) (by omega)]
  simp
  omega
theorem seg4 (l : List Int) (p : Nat) (h : p + 4 ≤ l.length) : ∃ b0 b1 b2 b3, (l.take (p + 4)).drop p = [b0, b1, b2, b3] ∧ b0 ∈ l ∧ b1 ∈ l ∧ b2 ∈ l ∧ b3 ∈ l := by
  have hl : ((l.take (p + 4)).drop p).length = 4 := by simp; omega
  have hm : ∀ x ∈ (l.take (p + 4)).drop p, x ∈ l := fun x hx => List.mem_of_mem_take (List.mem_of_mem_drop hx)
  match hq : (l.take (p + 4)).drop p, hl with
  | [b0, b1, b2, b3], _ =>
    rw [hq] at hm
    exact ⟨b0, b1, b2, b3, rfl, hm _ (by simp), hm _ (by simp), hm _ (by simp), hm _ (by simp)⟩
theorem seg1 (l : List Int) (p : Nat) (h : p + 1 ≤ l.length) : (l.take (p + 1)).drop p = [rd l p] := by
  apply List.ext_getElem?
  intro j
  rw [List.getElem?_drop, List.getElem?_take]
  cases j with
  | zero =>
    rw [if_pos (by omega)]
    unfold rd
    rw [Int.toNat_natCast, List.getD_eq_getElem?_getD]
    simp only [Nat.add_zero, List.getElem?_cons_zero]
    rw [List.getElem?_eq_getElem (show p < l.length by omega)]
    rfl
  | succ j => rw [if_neg (by omega)]; simp
theorem loadW_u32 (l : List Int) (p : Nat) (wide : Bool) (hb : ∀ x ∈ l, B8 x) (h : p + (sizeF wide).toNat ≤ l.length) : U32 (loadW l p wide) := by
  unfold loadW
  cases wide with
  | true =>
    obtain ⟨b0, b1, b2, b3, e, m0, m1, m2, m3⟩ := seg4 l p h
    rw [show (sizeF true).toNat = 4 from rfl, e, get4_f _ _ _ _ (hb _ m0) (hb _ m1) (hb _ m2) (hb _ m3)]
    have := hb _ m0; have := hb _ m1; have := hb _ m2; have := hb _ m3
    unfold U32 B8 at *
    simp only [Option.getD_some]
    omega
  | false =>
    have h1 : p + 1 ≤ l.length := h
    have hm : B8 (rd l p) := hb _ (by unfold rd; rw [Int.toNat_natCast, List.getD_eq_getElem?_getD, List.getElem?_eq_getElem (by omega)]; exact List.getElem_mem _)
    rw [show (sizeF false).toNat = 1 from rfl, seg1 l p h1, get1_f _ hm]
    unfold U32 B8 at *
    simp only [Option.getD_some]
    omega
theorem rload_f (wr : Int) (l : List Int) (a : Int) (wide : Bool) (ha : U32 a) (hl : l.length ≤ 1099511627776) (hb : ∀ x ∈ l, B8 x) :
    spliceref05_Load.f 10 wr l a wide = some (if okF l.length a wide = true then (loadW l (a - 65536).toNat wide, true) else (0, false)) := by
  unfold U32 at ha
  have e1 : wrap64 a = a := by unfold wrap64; omega
  have e2 : wrap64 (a + 3) = a + 3 := by unfold wrap64; omega
  have e3 : wrap64 (a - 65536) = a - 65536 := by unfold wrap64; omega
  have e4 : wrap64 (a + 3 - 65536) = a + 3 - 65536 := by unfold wrap64; omega
  have e5 : wrap64 (a - 65536 + 4) = a - 65536 + 4 := by unfold wrap64; omega
  have e6 : Int.tmod a 4 = a % 4 := Int.tmod_eq_emod_of_nonneg (by omega)
  unfold spliceref05_Load.f spliceref05_There.f
  rw [e1, e2, e6]
  cases wide with
  | true =>
    have hok : okF l.length a true = decide (a ≥ 65536 ∧ a - 65536 + 4 ≤ (l.length : Int) ∧ a % 4 = 0) := by
      unfold okF sizeF
      rw [if_pos rfl]
      exact decide_eq_decide.2 (by omega)
    rw [hok]
    by_cases c1 : a ≥ 65536
    case neg =>
      rw [if_neg c1]
      simp [spliceref05_Load.j0, c1]
    rw [if_pos c1, e3]
    by_cases c2 : a - 65536 < (l.length : Int)
    case neg =>
      have : ¬ (a - 65536 + 4 ≤ (l.length : Int)) := by omega
      simp [spliceref05_Load.j0, c2, this]
    simp only [c2, decide_true, Option.bind_some, if_true]
    by_cases c3 : a % 4 = 0
    case neg =>
      rw [if_neg c3]
      simp [spliceref05_Load.j0, c3]
    rw [if_pos c3, if_pos (by omega), e4]
    by_cases c4 : a + 3 - 65536 < (l.length : Int)
    case neg =>
      have : ¬ (a - 65536 + 4 ≤ (l.length : Int)) := by omega
      simp [spliceref05_Load.j0, c4, this]
    have c5 : a - 65536 + 4 ≤ (l.length : Int) := by omega
    simp only [c4, decide_true, Option.bind_some, Bool.not_true]
    simp only [spliceref05_Load.j0, e3, e5]
    rw [if_neg (by decide), if_pos trivial, if_pos (by omega), if_pos (by omega), if_pos c5]
    obtain ⟨p, hp⟩ : ∃ p : Nat, a - 65536 = p := ⟨(a - 65536).toNat, by omega⟩
    rw [hp, show ((p : Int) + 4).toNat = p + 4 by omega, Int.toNat_natCast]
    obtain ⟨b0, b1, b2, b3, e, m0, m1, m2, m3⟩ := seg4 l p (by omega)
    have hd : decide (a ≥ 65536 ∧ (p : Int) + 4 ≤ (l.length : Int) ∧ a % 4 = 0) = true := decide_eq_true ⟨c1, by omega, c3⟩
    rw [if_pos hd, e, rget4_f _ _ _ _ (hb _ m0) (hb _ m1) (hb _ m2) (hb _ m3)]
    unfold loadW
    rw [show (sizeF true).toNat = 4 from rfl, e, get4_f _ _ _ _ (hb _ m0) (hb _ m1) (hb _ m2) (hb _ m3)]
    rfl
  | false =>
    have hok : okF l.length a false = decide (a ≥ 65536 ∧ a - 65536 < (l.length : Int)) := by
      unfold okF sizeF
      rw [if_neg (by decide)]
      exact decide_eq_decide.2 (by omega)
    rw [hok]
    by_cases c1 : a ≥ 65536
    case neg =>
      rw [if_neg c1]
      simp [spliceref05_Load.j0, c1]
    rw [if_pos c1, e3]
    by_cases c2 : a - 65536 < (l.length : Int)
    case neg => simp [spliceref05_Load.j0, c2]
    simp only [c2, decide_true, Option.bind_some, if_true]
    simp only [spliceref05_Load.j0, e3]
    rw [if_neg (by decide), if_neg (by decide), if_neg (by decide), if_pos (by omega), if_pos c2]
    obtain ⟨p, hp⟩ : ∃ p : Nat, a - 65536 = p := ⟨(a - 65536).toNat, by omega⟩
    rw [hp, Int.toNat_natCast]
    have hpl : p < l.length := by omega
    have hm : B8 (rd l p) := hb _ (by unfold rd; rw [Int.toNat_natCast, List.getD_eq_getElem?_getD, List.getElem?_eq_getElem hpl]; exact List.getElem_mem _)
    have hd : decide (a ≥ 65536 ∧ True) = true := decide_eq_true ⟨c1, trivial⟩
    rw [if_pos hd]
    unfold loadW
    rw [show (sizeF false).toNat = 1 from rfl, seg1 l p (by omega), get1_f _ hm]
    unfold B8 at hm
    simp only [Option.getD_some]
    congr 2
    omega
theorem mod_f (x : Int) (h0 : -9223372036854775808 ≤ x) (h1 : x ≤ 9223372036854775807) : spliceref01_Mod.f x 4294967296 = some (x % 4294967296) := by
  unfold spliceref01_Mod.f
  rw [if_neg (by decide)]
  split
  · rename_i h
    congr 1
    rcases Int.lt_or_le x 0 with hx | hx
    · have e : Int.tmod x 4294967296 = -((-x) % 4294967296) := by
        rw [← Int.tmod_eq_emod_of_nonneg (by omega), ← Int.neg_tmod, Int.neg_neg]
      rw [e]
      rw [e] at h
      unfold wrap64
      omega
    · rw [Int.tmod_eq_emod_of_nonneg hx] at h
      omega
  · rename_i h
    congr 1
    rcases Int.lt_or_le x 0 with hx | hx
    · have e : Int.tmod x 4294967296 = -((-x) % 4294967296) := by
        rw [← Int.tmod_eq_emod_of_nonneg (by omega), ← Int.neg_tmod, Int.neg_neg]
      rw [e]
      rw [e] at h
      omega
    · rw [Int.tmod_eq_emod_of_nonneg hx]
theorem word_f (x : Int) (h0 : -9223372036854775808 ≤ x) (h1 : x ≤ 9223372036854775807) : spliceref04_word.f x = some (x % 4294967296) := by
  unfold spliceref04_word.f
  rw [mod_f x h0 h1]
  simp only [Option.bind_some]
  congr 1
  omega
theorem sign_le (z : Int) (hz : U32 z) : ∀ n : Nat, spliceref01_Sign.f (34 + n) z 32 = some (wrap32 z)
  | 0 => sign32_f z hz
  | n + 1 => spliceref01_Sign.mono _ _ (34 + n) _ (sign_le z hz n)
theorem sign_at (z : Int) (hz : U32 z) (n N : Nat) (h : N = 34 + n) : spliceref01_Sign.f N z 32 = some (wrap32 z) := by
  subst h
  exact sign_le z hz n
theorem w64_nat (y : Nat) (h : y < 9223372036854775808) : wrap64 (y : Int) = (y : Int) := by unfold wrap64; omega
theorem mul_split (p q : Nat) (hp : p < 4294967296) (hq : q < 4294967296) : ∃ z : Nat, wrap64 (wrap64 (Int.tmod (p : Int) 65536 * (q : Int)) + wrap64 (wrap64 (wrap64 (Int.tdiv (p : Int) 65536) * Int.tmod (q : Int) 65536) * 65536)) = (z : Int) ∧ z < 9223372036854775808 ∧ (p * q) % 4294967296 = z % 4294967296 := by
  have t1 : Int.tmod (p : Int) 65536 = ((p % 65536 : Nat) : Int) := by rw [Int.tmod_eq_emod_of_nonneg (by omega)]; omega
  have t2 : Int.tmod (q : Int) 65536 = ((q % 65536 : Nat) : Int) := by rw [Int.tmod_eq_emod_of_nonneg (by omega)]; omega
  have t3 : Int.tdiv (p : Int) 65536 = ((p / 65536 : Nat) : Int) := by rw [Int.tdiv_eq_ediv_of_nonneg (by omega)]; omega
  rw [t1, t2, t3]
  clear t1 t2 t3
  have hp' : p = p / 65536 * 65536 + p % 65536 := by omega
  have hq' : q = q / 65536 * 65536 + q % 65536 := by omega
  have b1 : p % 65536 ≤ 65535 := by omega
  have b2 : p / 65536 ≤ 65535 := by omega
  have b3 : q % 65536 ≤ 65535 := by omega
  have b4 : q ≤ 4294967295 := by omega
  clear hp hq
  generalize p % 65536 = pl at *
  generalize p / 65536 = ph at *
  generalize hql : q % 65536 = ql at *
  generalize q / 65536 = qh at *
  have m1 : pl * q ≤ 65535 * 4294967295 := Nat.mul_le_mul b1 b4
  have m2 : ph * ql ≤ 65535 * 65535 := Nat.mul_le_mul b2 b3
  have e : p * q = pl * q + ph * ql * 65536 + ph * qh * 4294967296 := by
    rw [hp', Nat.add_mul]
    have h1 : ph * 65536 * q = ph * ql * 65536 + ph * qh * 4294967296 := by
      rw [hq', Nat.mul_add, Nat.mul_assoc ph 65536 (qh * 65536), Nat.mul_assoc ph 65536 ql, show 65536 * (qh * 65536) = qh * 4294967296 by omega, Nat.mul_comm 65536 ql, ← Nat.mul_assoc ph ql, ← Nat.mul_assoc ph qh]
      exact Nat.add_comm _ _
    rw [h1]
    omega
  refine ⟨pl * q + ph * ql * 65536, ?_, ?_, ?_⟩
  · rw [← Int.natCast_mul, w64_nat (pl * q) (by omega), w64_nat ph (by omega), ← Int.natCast_mul, w64_nat (ph * ql) (by omega)]
    generalize pl * q = x at *
    generalize ph * ql = y at *
    rw [show ((y : Nat) : Int) * 65536 = ((y * 65536 : Nat) : Int) by omega, w64_nat _ (by omega), ← Int.natCast_add, w64_nat _ (by omega)]
  · omega
  · rw [e]
    omega
theorem six_a (k : Nat) (p q : Int) (a b c imm op : Int) (h : op = 6) : spliceref04_Do.j0 (k + 1) p q p q false op a b c imm = ((spliceref01_Sign.f k p 32).bind fun t338 => ((spliceref01_Sign.f k q 32).bind fun t339 => (spliceref04_Do.j1 k p p q (decide (t338 < t339)) op a b c imm))) := by
  rw [spliceref04_Do.j0, if_neg (by decide), if_pos h]
theorem six_b (k : Nat) (p q : Int) (a b c imm op : Int) (x y : Int) (hp : spliceref01_Sign.f k p 32 = some x) (hq : spliceref01_Sign.f k q 32 = some y) : ((spliceref01_Sign.f k p 32).bind fun t338 => ((spliceref01_Sign.f k q 32).bind fun t339 => (spliceref04_Do.j1 k p p q (decide (t338 < t339)) op a b c imm))) = spliceref04_Do.j1 k p p q (decide (x < y)) op a b c imm := by
  rw [hp, hq]
  rfl
theorem six_c (k : Nat) (p q : Int) (a b c imm op : Int) (h : op = 6) (bb : Bool) : spliceref04_Do.j1 (k + 1) p p q bb op a b c imm = some (if bb = true then 1 else 0) := by
  subst h
  rw [spliceref04_Do.j1]
  cases bb
  · rw [if_neg (by decide), if_neg (by decide), if_neg (by decide), if_neg (by decide), if_neg (by decide), if_neg (by decide)]
  · rw [if_pos rfl, if_pos rfl]
theorem do4_six (k K L : Nat) (hK : K = k + 1) (hL : L = K + 1) (p q : Int) (a b c imm op x y : Int) (h : op = 6) (hp : spliceref01_Sign.f K p 32 = some x) (hq : spliceref01_Sign.f K q 32 = some y) : spliceref04_Do.j0 L p q p q false op a b c imm = some (if decide (x < y) = true then 1 else 0) := by
  subst hK hL
  exact (six_a (k + 1) p q a b c imm op h).trans ((six_b (k + 1) p q a b c imm op x y hp hq).trans (six_c k p q a b c imm op h _))
theorem six_end (k : Nat) (p q : Int) (a b c imm op r : Int) (h : op = 6) (hk : 34 ≤ k) (hp : U32 p) (hq : U32 q) (hd : (if decide (wrap32 p < wrap32 q) = true then some 1 else some 0) = some r) : spliceref04_Do.j0 (k + 1 + 1) p q p q false op a b c imm = some r ∧ (0 ≤ r ∧ r ≤ 4294967295) := by
  have s1 := sign_at p hp (k + 1 - 34) (k + 1) (by omega)
  have s2 := sign_at q hq (k + 1 - 34) (k + 1) (by omega)
  revert s1 s2 hd
  generalize wrap32 p = x
  generalize wrap32 q = y
  intro hd s1 s2
  have h6 := do4_six k (k + 1) (k + 1 + 1) rfl rfl p q a b c imm op x y h s1 s2
  by_cases hl : decide (x < y) = true
  · rw [if_pos hl] at h6 hd
    obtain rfl := Option.some.inj hd
    exact ⟨h6, by decide, by decide⟩
  · rw [if_neg hl] at h6 hd
    obtain rfl := Option.some.inj hd
    exact ⟨h6, by decide, by decide⟩
theorem do_six (k : Nat) (a b c imm op r x y : Int) (h : op = 6) (hk : 34 ≤ k) (hx : U32 x) (hy : U32 y) (hd : alu_Do.f op a b c imm x y = some r) : spliceref04_Do.f (k + 1 + 1) op a b c imm x y = some r ∧ (0 ≤ r ∧ r ≤ 4294967295) := by
  have wx : wrap64 x = x := by unfold U32 at hx; unfold wrap64; omega
  have wy : wrap64 y = y := by unfold U32 at hy; unfold wrap64; omega
  unfold alu_Do.f alu_less.f at hd
  rw [if_neg (by omega), if_neg (by omega), if_neg (by omega), if_neg (by omega), if_neg (by omega), if_pos h] at hd
  have e := six_end k x y a b c imm op r h hk hx hy hd
  unfold spliceref04_Do.f
  rw [if_neg (by omega), if_neg (by omega), if_pos (by omega), wx, wy, show decide (op ≤ 5) = false from decide_eq_false (by omega)]
  exact e
set_option maxRecDepth 100000 in
set_option maxHeartbeats 2000000 in
theorem do4_f (k : Nat) (hk : 34 ≤ k) (i : IV) (hi : Rt i.op i.a i.b i.c_ i.imm) (x y : Int) (hx : U32 x) (hy : U32 y) : spliceref04_Do.f (k + 1 + 1) i.op i.a i.b i.c_ i.imm x y = some (doF i x y) ∧ U32 (doF i x y) := by
  have key : ∀ r, alu_Do.f i.op i.a i.b i.c_ i.imm x y = some r → spliceref04_Do.f (k + 1 + 1) i.op i.a i.b i.c_ i.imm x y = some r ∧ U32 r → spliceref04_Do.f (k + 1 + 1) i.op i.a i.b i.c_ i.imm x y = some (doF i x y) ∧ U32 (doF i x y) := fun r h1 h2 => by
    rw [do_some] at h1
    rw [Option.some.inj h1]
    exact h2
  refine key _ (do_some i x y) ?_
  have hd := do_some i x y
  generalize doF i x y = r at *
  clear key
  obtain ⟨op, a, b, c, imm⟩ := i
  simp only at *
  unfold U32 at *
  have wx : wrap64 x = x := by unfold wrap64; omega
  have wy : wrap64 y = y := by unfold wrap64; omega
  by_cases o6 : op = 6
  · exact do_six k a b c imm op r x y o6 hk hx hy hd
  obtain ⟨p, rfl⟩ := Int.eq_ofNat_of_zero_le hx.1
  obtain ⟨q, rfl⟩ := Int.eq_ofNat_of_zero_le hy.1
  have hp : p < 4294967296 := by omega
  have hq : q < 4294967296 := by omega
  unfold alu_Do.f at hd
  unfold spliceref04_Do.f
  have hop : 0 ≤ op ∧ op ≤ 25 := by
    clear hd
    unfold Rt at hi
    repeat' split at hi
    all_goals first | exact hi.elim | omega
  by_cases o1 : op = 1
  · as_aux_lemma =>
    subst o1
    rw [if_pos (show (1 : Int) = 1 from rfl)] at hd ⊢
    rw [wx, wy, show wrap64 ((p : Int) + q) = p + q by unfold wrap64; omega, word_f _ (by omega) (by omega)]
    obtain rfl := Option.some.inj hd
    exact ⟨rfl, by omega⟩
  rw [if_neg o1] at hd ⊢
  by_cases o2 : op = 2
  · as_aux_lemma =>
    subst o2
    rw [if_pos (show (2 : Int) = 2 from rfl)] at hd ⊢
    rw [wx, wy, show wrap64 ((p : Int) - q) = p - q by unfold wrap64; omega, word_f _ (by omega) (by omega)]
    obtain rfl := Option.some.inj hd
    exact ⟨rfl, by omega⟩
  rw [if_neg o2] at hd ⊢
  have hb3 := bits_u32 p q hp hq
  by_cases o3 : op = 3
  · as_aux_lemma =>
    subst o3
    rw [if_pos (show (3 : Int) = 3 from rfl)] at hd
    rw [if_pos (by decide)]
    simp only [spliceref04_Do.j0]
    rw [if_pos (by decide), show wrap64 (3 - 3) = ((0 : Nat) : Int) by decide +kernel, bitwise_f 0 p q (by decide) hp hq (k + 1) (by omega)]
    rw [hb3.1] at hd
    obtain rfl := Option.some.inj hd
    have := bitG_lt 0 p q 32 hp hq
    exact ⟨rfl, by omega⟩
  rw [if_neg o3] at hd
  by_cases o4 : op = 4
  · as_aux_lemma =>
    subst o4
    rw [if_pos (show (4 : Int) = 4 from rfl)] at hd
    rw [if_pos (by decide)]
    simp only [spliceref04_Do.j0]
    rw [if_pos (by decide), show wrap64 (4 - 3) = ((1 : Nat) : Int) by decide +kernel, bitwise_f 1 p q (by decide) hp hq (k + 1) (by omega)]
    rw [hb3.2.1] at hd
    obtain rfl := Option.some.inj hd
    have := bitG_lt 1 p q 32 hp hq
    exact ⟨rfl, by omega⟩
  rw [if_neg o4] at hd
  by_cases o5 : op = 5
  · as_aux_lemma =>
    subst o5
    rw [if_pos (show (5 : Int) = 5 from rfl)] at hd
    rw [if_pos (by decide)]
    simp only [spliceref04_Do.j0]
    rw [if_pos (by decide), show wrap64 (5 - 3) = ((2 : Nat) : Int) by decide +kernel, bitwise_f 2 p q (by decide) hp hq (k + 1) (by omega)]
    rw [hb3.2.2] at hd
    obtain rfl := Option.some.inj hd
    have := bitG_lt 2 p q 32 hp hq
    exact ⟨rfl, by omega⟩
  rw [if_neg o5] at hd
  have hz : (if op ≥ 3 then spliceref04_Do.j0 (k + 1 + 1) p q (wrap64 p) (wrap64 q) (decide (op ≤ 5)) op a b c imm else spliceref04_Do.j0 (k + 1 + 1) p q (wrap64 p) (wrap64 q) false op a b c imm) = spliceref04_Do.j0 (k + 1 + 1) p q p q false op a b c imm := by
    rw [wx, wy]
    split
    · rw [show decide (op ≤ 5) = false from decide_eq_false (by omega)]
    · rfl
  rw [hz]
  clear hz
  simp only [spliceref04_Do.j0]
  rw [if_neg (by decide)]
  rw [if_neg o6] at hd ⊢
  simp only [spliceref04_Do.j1]
  rw [if_neg (by decide)]
  by_cases o7 : op = 7
  · as_aux_lemma =>
    subst o7
    rw [if_pos (show (7 : Int) = 7 from rfl)] at hd ⊢
    obtain ⟨z, hz1, hz2, hz3⟩ := mul_split p q hp hq
    rw [hz1, word_f _ (by omega) (by omega)]
    have e2 : ((p : Int) * q) % 4294967296 = (z : Int) % 4294967296 := by
      rw [← Int.natCast_mul]
      generalize p * q = y at *
      omega
    rw [e2] at hd
    obtain rfl := Option.some.inj hd
    exact ⟨rfl, by omega⟩
  rw [if_neg o7] at hd ⊢
  by_cases o8 : op = 8
  · as_aux_lemma =>
    subst o8
    rw [if_pos (show (8 : Int) = 8 from rfl)] at hd ⊢
    have hib : -32768 ≤ imm ∧ imm ≤ 32767 := by have := (rt_near (.inl rfl)).1 hi; omega
    rw [Code.cut32] at hd
    rw [show wrap64 ((p : Int) + imm) = p + imm by unfold wrap64; omega, word_f _ (by omega) (by omega)]
    have e : ((p : Int) + imm % 4294967296) % 4294967296 = (p + imm) % 4294967296 := by omega
    simp only [Option.bind_some] at hd ⊢
    rw [e] at hd
    obtain rfl := Option.some.inj hd
    exact ⟨rfl, by omega⟩
  rw [if_neg o8] at hd ⊢
  by_cases o9 : op = 9
  · as_aux_lemma =>
    subst o9
    rw [if_pos (show (9 : Int) = 9 from rfl)] at hd ⊢
    have hib : 0 ≤ imm ∧ imm ≤ 65535 := by unfold Rt at hi; simp at hi; omega
    rw [Code.cut16] at hd
    rw [show wrap64 (imm * 65536) = imm * 65536 by unfold wrap64; omega, word_f _ (by omega) (by omega)]
    have e : (imm % 65536 * 65536) % 4294967296 = (imm * 65536) % 4294967296 := by omega
    simp only [Option.bind_some] at hd ⊢
    rw [e] at hd
    obtain rfl := Option.some.inj hd
    exact ⟨rfl, by omega⟩
  rw [if_neg o9] at hd ⊢
  by_cases o10 : op = 10
  · as_aux_lemma =>
    subst o10
    rw [if_pos (show (10 : Int) = 10 from rfl)] at hd ⊢
    have hib : 0 ≤ imm ∧ imm ≤ 65535 := by have := (rt_10 rfl).1 hi; omega
    obtain ⟨m, rfl⟩ := Int.eq_ofNat_of_zero_le hib.1
    rw [Code.cut16] at hd
    rw [show (m : Int) % 4294967296 = m by omega]
    rw [show (1 : Int) = ((1 : Nat) : Int) from rfl, bitwise_f 1 p m (by decide) hp (by omega) k (by omega)]
    simp only [Option.bind_some] at hd ⊢
    rw [show (m : Int) % 65536 = m by omega, (bits_u32 p m hp (by omega)).2.1] at hd
    obtain rfl := Option.some.inj hd
    have := bitG_lt 1 p m 32 hp (show m < 2 ^ 32 by omega)
    exact ⟨rfl, by omega⟩
  rw [if_neg o10] at hd ⊢
  obtain rfl := Option.some.inj hd
  exact ⟨rfl, by omega⟩
end Go.Proofs.Ytcagccodmmcnfaa.Cpu
