/- What the reference's step reckons: the same as the program's. Plain laws. Own work; a template. -/
import Derived.Test.YtcagccodmmcnfaaMxG
import Derived.Test.YtcagccodmmcnfaaQ60
import Derived.Test.YtcagccodmmcnfaaQ61
import Derived.Test.YtcagccodmmcnfaaQ55
import Derived.Test.YtcagccodmmcnfaaQ51
namespace Go.Proofs.Ytcagccodmmcnfaa.Cpu
open Go.RowKit Go.Proofs.YtcagccodmmcnfaaW.PrintWords Go.Proofs.YtcagccodmmcnfaaW.PrintLast Go.Proofs.YtcagccodmmcnfaaW.PrintMore Go.Proofs.Ytcagccodmmcnfaa.Hp Go.Proofs.Ytcagccodmmcnfaa.Q Go.Proofs.Ytcagccodmmcnfaa.Code
set_option linter.unusedVariables false
set_option linter.unusedSimpArgs false
theorem kind3_f (op a b c i : Int) (h0 : 0 ≤ op) (h1 : op < 26) : spliceref03_Kind.f op a b c i = some (kindF op) := by
  obtain ⟨n, rfl⟩ : ∃ n : Nat, op = n := ⟨op.toNat, by omega⟩
  have hn : n < 26 := by omega
  clear h0 h1
  match n, hn with
  | n + 26, hn => exact absurd hn (by omega)
  | 0, _ | 1, _ | 2, _ | 3, _ | 4, _ | 5, _ | 6, _ | 7, _ | 8, _ | 9, _ | 10, _ | 11, _ | 12, _ | 13, _ | 14, _ | 15, _ | 16, _ | 17, _ | 18, _ | 19, _ | 20, _ | 21, _ | 22, _ | 23, _ | 24, _ | 25, _ => rfl
/-! bits, one by one -/
theorem nat_and_half (a b : Nat) : a &&& b = 2 * ((a / 2) &&& (b / 2)) + (a % 2) * (b % 2) := by
  have h : (a &&& b) / 2 = (a / 2) &&& (b / 2) := by
    apply Nat.eq_of_testBit_eq
    intro i
    rw [Nat.testBit_div_two, Nat.testBit_and, Nat.testBit_and, Nat.testBit_div_two, Nat.testBit_div_two]
  have h2 : (a &&& b) % 2 = (a % 2) * (b % 2) := by
    have := Nat.testBit_and a b 0
    simp only [Nat.testBit_zero] at this
    rcases Nat.mod_two_eq_zero_or_one a with ha | ha <;> rcases Nat.mod_two_eq_zero_or_one b with hb | hb <;> rcases Nat.mod_two_eq_zero_or_one (a &&& b) with hc | hc <;> simp_all
  rw [← h, ← h2]
  omega
theorem nat_or_half (a b : Nat) : a ||| b = 2 * ((a / 2) ||| (b / 2)) + (a % 2 + b % 2 - (a % 2) * (b % 2)) := by
  have h : (a ||| b) / 2 = (a / 2) ||| (b / 2) := by
    apply Nat.eq_of_testBit_eq
    intro i
    rw [Nat.testBit_div_two, Nat.testBit_or, Nat.testBit_or, Nat.testBit_div_two, Nat.testBit_div_two]
  have h2 : (a ||| b) % 2 = a % 2 + b % 2 - (a % 2) * (b % 2) := by
    have := Nat.testBit_or a b 0
    simp only [Nat.testBit_zero] at this
    rcases Nat.mod_two_eq_zero_or_one a with ha | ha <;> rcases Nat.mod_two_eq_zero_or_one b with hb | hb <;> rcases Nat.mod_two_eq_zero_or_one (a ||| b) with hc | hc <;> simp_all
  rw [← h, ← h2]
  omega
theorem nat_xor_half (a b : Nat) : a ^^^ b = 2 * ((a / 2) ^^^ (b / 2)) + (a % 2 + b % 2) % 2 := by
  have h : (a ^^^ b) / 2 = (a / 2) ^^^ (b / 2) := by
    apply Nat.eq_of_testBit_eq
    intro i
    rw [Nat.testBit_div_two, Nat.testBit_xor, Nat.testBit_xor, Nat.testBit_div_two, Nat.testBit_div_two]
  have h2 : (a ^^^ b) % 2 = (a % 2 + b % 2) % 2 := by
    have := Nat.testBit_xor a b 0
    simp only [Nat.testBit_zero] at this
    rcases Nat.mod_two_eq_zero_or_one a with ha | ha <;> rcases Nat.mod_two_eq_zero_or_one b with hb | hb <;> rcases Nat.mod_two_eq_zero_or_one (a ^^^ b) with hc | hc <;> simp_all
  rw [← h, ← h2]
  omega
/-- A bit of both. -/
def bitG (how : Nat) (a b : Nat) : Nat := if how = 2 then a ^^^ b else if how = 1 then a ||| b else a &&& b
def bit1 (how : Nat) (p q : Nat) : Nat := if how = 2 then (p + q) % 2 else if how = 1 then p + q - p * q else p * q
theorem bitG_half (how a b : Nat) : bitG how a b = 2 * bitG how (a / 2) (b / 2) + bit1 how (a % 2) (b % 2) := by
  unfold bitG bit1
  split
  · exact nat_xor_half a b
  split
  · exact nat_or_half a b
  · exact nat_and_half a b
theorem bit1_le (how a b : Nat) : bit1 how (a % 2) (b % 2) ≤ 1 := by
  unfold bit1
  rcases Nat.mod_two_eq_zero_or_one a with ha | ha <;> rcases Nat.mod_two_eq_zero_or_one b with hb | hb <;> rw [ha, hb] <;> repeat' split
  all_goals omega
theorem bitG_lt (how a b j : Nat) (ha : a < 2 ^ j) (hb : b < 2 ^ j) : bitG how a b < 2 ^ j := by
  unfold bitG
  split
  · exact Nat.xor_lt_two_pow ha hb
  split
  · exact Nat.or_lt_two_pow ha hb
  · exact Nat.and_lt_two_pow _ hb
theorem w64_small (y : Nat) (h : y < 4294967296) : wrap64 (y : Int) = (y : Int) := by unfold wrap64; omega
theorem tmod2 (y : Nat) : Int.tmod (y : Int) 2 = ((y % 2 : Nat) : Int) := by rw [Int.tmod_eq_emod_of_nonneg (by omega)]; omega
theorem shr_nat (x i : Nat) (hi : i ≤ 32) : shr .u32 (x : Int) (i : Int) = ((x / 2 ^ i : Nat) : Int) := by
  unfold shr
  rw [Int.toNat_natCast, show IntKind.u32.bits = 32 from rfl, Nat.min_eq_left hi, Int.natCast_ediv, Int.natCast_pow]
  rfl
theorem mix (how p q x : Nat) (hh : how ≤ 2) (hp : p < 2) (hq : q < 2) (hx : x < 4294967296) :
    (if (how : Int) = 1 then (if (how : Int) = 2 then wrap64 (wrap64 (2 * (x : Int)) + Int.tmod (wrap64 ((p : Int) + (q : Int))) 2) else wrap64 (wrap64 (2 * (x : Int)) + wrap64 (wrap64 ((p : Int) + (q : Int)) - wrap64 ((p : Int) * (q : Int))))) else (if (how : Int) = 2 then wrap64 (wrap64 (2 * (x : Int)) + Int.tmod (wrap64 ((p : Int) + (q : Int))) 2) else wrap64 (wrap64 (2 * (x : Int)) + wrap64 ((p : Int) * (q : Int))))) = ((2 * x + bit1 how p q : Nat) : Int) := by
  have hb : bit1 how p q ≤ 1 := by
    have h1 := bit1_le how p q
    rw [Nat.mod_eq_of_lt hp, Nat.mod_eq_of_lt hq] at h1
    exact h1
  have f1 : wrap64 (2 * (x : Int)) = 2 * x := by unfold wrap64; omega
  have key : ∀ z : Int, z = (bit1 how p q : Int) → wrap64 (2 * (x : Int) + z) = ((2 * x + bit1 how p q : Nat) : Int) := fun z hz => by
    rw [hz]
    unfold wrap64
    omega
  rw [f1]
  have hp' : p = 0 ∨ p = 1 := by omega
  have hq' : q = 0 ∨ q = 1 := by omega
  have hw : how = 0 ∨ how = 1 ∨ how = 2 := by omega
  rcases hw with rfl | rfl | rfl <;> rcases hp' with rfl | rfl <;> rcases hq' with rfl | rfl
  all_goals
    first | (rw [if_pos (by decide), if_neg (by decide)]; exact key _ (by decide +kernel)) | (rw [if_neg (by decide), if_pos (by decide)]; exact key _ (by decide +kernel)) | (rw [if_neg (by decide), if_neg (by decide)]; exact key _ (by decide +kernel))
theorem bits_step (how b c x i k : Nat) (hh : how ≤ 2) (hb : b < 4294967296) (hc : c < 4294967296) (hx : x < 4294967296) (hi : i ≤ 31) :
    spliceref04_bitwise.l0 (k + 1) b c how x (i : Int) = spliceref04_bitwise.l0 k b c how ((2 * x + bit1 how (b / 2 ^ i % 2) (c / 2 ^ i % 2) : Nat) : Int) ((i : Int) - 1) := by
  have e1 : IntKind.u64.wrap (i : Int) = (i : Int) := by rw [Lib.wrap_u64]; omega
  have e9 : wrap64 ((i : Int) - 1) = (i : Int) - 1 := by unfold wrap64; omega
  have hp := Nat.mod_lt (b / 2 ^ i) (show 0 < 2 by decide)
  have hq := Nat.mod_lt (c / 2 ^ i) (show 0 < 2 by decide)
  have s1 := w64_small (b / 2 ^ i) (Nat.lt_of_le_of_lt (Nat.div_le_self _ _) hb)
  have s2 := w64_small (c / 2 ^ i) (Nat.lt_of_le_of_lt (Nat.div_le_self _ _) hc)
  have t1 := tmod2 (b / 2 ^ i)
  have t2 := tmod2 (c / 2 ^ i)
  have hm := mix how (b / 2 ^ i % 2) (c / 2 ^ i % 2) x hh hp hq hx
  simp only [spliceref04_bitwise.l0, e1, shr_nat b i (by omega), shr_nat c i (by omega), s1, s2, t1, t2, e9]
  clear s1 s2 t1 t2
  generalize b / 2 ^ i % 2 = p at *
  generalize c / 2 ^ i % 2 = q at *
  rw [if_pos (by omega), if_pos (by omega), ← hm]
  split <;> split <;> rfl
theorem bits_loop (how b c : Nat) (hh : how ≤ 2) (hb : b < 4294967296) (hc : c < 4294967296) : ∀ (i : Nat) (k : Nat), i ≤ 32 → i < k → spliceref04_bitwise.l0 k b c how (bitG how (b / 2 ^ i) (c / 2 ^ i) : Nat) ((i : Int) - 1) = some ((bitG how b c : Nat) : Int)
  | 0, k, h1, h2 => by
    obtain ⟨k, rfl⟩ : ∃ m, k = m + 1 := ⟨k - 1, by omega⟩
    have := bitG_lt how b c 32 hb hc
    simp only [spliceref04_bitwise.l0]
    rw [if_neg (by omega)]
    simp only [Nat.pow_zero, Nat.div_one]
    congr 1
    omega
  | i + 1, k, h1, h2 => by
    obtain ⟨k, rfl⟩ : ∃ m, k = m + 1 := ⟨k - 1, by omega⟩
    have ih := bits_loop how b c hh hb hc i k (by omega) (by omega)
    have dv : ∀ x : Nat, x / 2 ^ (i + 1) = x / 2 ^ i / 2 := fun x => by rw [Nat.pow_succ, Nat.div_div_eq_div_mul]
    have hL : bitG how (b / 2 ^ i / 2) (c / 2 ^ i / 2) < 4294967296 := bitG_lt how _ _ 32 (Nat.lt_of_le_of_lt (Nat.div_le_self _ _) (Nat.lt_of_le_of_lt (Nat.div_le_self _ _) hb)) (Nat.lt_of_le_of_lt (Nat.div_le_self _ _) (Nat.lt_of_le_of_lt (Nat.div_le_self _ _) hc))
    rw [dv, dv, show ((i + 1 : Nat) : Int) - 1 = (i : Int) by omega, bits_step how b c _ i k hh hb hc hL (by omega), ← bitG_half]
    exact ih
theorem bitwise_f (how b c : Nat) (hh : how ≤ 2) (hb : b < 4294967296) (hc : c < 4294967296) (k : Nat) (hk : 33 ≤ k) : spliceref04_bitwise.f k b c how = some ((bitG how b c : Nat) : Int) := by
  have h := bits_loop how b c hh hb hc 32 k (by omega) (by omega)
  rw [Nat.div_eq_of_lt (show b < 2 ^ 32 from hb), Nat.div_eq_of_lt (show c < 2 ^ 32 from hc)] at h
  have : bitG how 0 0 = 0 := by unfold bitG; simp
  rw [this] at h
  exact h
theorem bits_u32 (a b : Nat) (ha : a < 4294967296) (hb : b < 4294967296) : Go.bits .and .u32 a b = ((bitG 0 a b : Nat) : Int) ∧ Go.bits .or .u32 a b = ((bitG 1 a b : Nat) : Int) ∧ Go.bits .xor .u32 a b = ((bitG 2 a b : Nat) : Int) := by
  have h := bits_nat .u32 32 (by decide) Lib.wraps_u32 a b ha hb
  refine ⟨h.1, h.2, ?_⟩
  have ha' : a % 2 ^ 32 = a := Nat.mod_eq_of_lt ha
  have hb' : b % 2 ^ 32 = b := Nat.mod_eq_of_lt hb
  have hx : a ^^^ b < 2 ^ 32 := Nat.xor_lt_two_pow ha hb
  simp only [Go.bits, show IntKind.u32.bits = 32 from rfl, BitVec.ofInt_natCast, BitVec.toNat_xor, BitVec.toNat_ofNat, ha', hb']
  exact Lib.wraps_u32 _ (Int.natCast_nonneg _) (by exact_mod_cast hx)
/-! Sign, Taken -/
theorem power32 : spliceref01_Power.f 33 32 = some 4294967296 := by decide +kernel
theorem sign32_f (x : Int) (hx : U32 x) : spliceref01_Sign.f 34 x 32 = some (wrap32 x) := by
  unfold U32 at hx
  unfold spliceref01_Sign.f
  rw [if_neg (by decide)]
  simp only [spliceref01_Sign.j0, power32, Option.bind_some]
  rw [if_neg (by decide), if_neg (by decide)]
  have e1 : wrap64 x = x := by unfold wrap64; omega
  have e2 : Int.tmod x 4294967296 = x := by rw [Int.tmod_eq_emod_of_nonneg (by omega)]; omega
  have e3 : wrap64 (Int.tdiv 4294967296 2) = 2147483648 := by decide +kernel
  rw [e1, e2, e3]
  by_cases h : x ≥ 2147483648
  · rw [if_pos h]
    congr 1
    unfold wrap64 wrap32
    omega
  · rw [if_neg h]
    congr 1
    unfold wrap32
    omega
theorem taken4_f (op a b : Int) (ha : U32 a) (hb : U32 b) : spliceref04_Taken.f 34 op a b = some (takenF op a b) := by
  have hw : wrap32 a = wrap32 b ↔ a = b := by
    unfold U32 at ha hb
    unfold wrap32
    omega
  unfold spliceref04_Taken.f takenF
  rw [sign32_f a ha, sign32_f b hb]
  simp only [Option.bind_some, hw]
  by_cases h15 : op = 15
  · subst h15
    by_cases he : a = b
    · simp [he]
    · simp [he]
  rw [if_neg h15, if_neg h15]
  by_cases h16 : op = 16
  · subst h16
    by_cases he : a = b
    · simp [he]
    · simp [he]
  rw [if_neg h16, if_neg h16]
  by_cases h17 : op = 17
  · subst h17
    by_cases he : wrap32 a < wrap32 b
    · simp [he]
    · simp [he]
  rw [if_neg h17, if_neg h17]
  by_cases h18 : op = 18
  · subst h18
    simp only [if_true, Option.some.injEq]
    rw [← decide_not]
    exact decide_eq_decide.2 (by omega)
  rw [if_neg h18, if_neg h18]
end Go.Proofs.Ytcagccodmmcnfaa.Cpu
