/- Bits of words, as whole numbers. Own work; a template: 'Ytdnfofhfllnhiaa' is a seat's Name. -/
import Derived.Laws.BitsLemmas
import Derived.Test.YtdnfofhfllnhiaaWMore
namespace Go.Proofs.Ytdnfofhfllnhiaa.Lib
open Go.RowKit Go.Proofs.YtdnfofhfllnhiaaW.PrintWords Go.Proofs.YtdnfofhfllnhiaaW.PrintMore

theorem wraps_u32 (n : Int) (h₀ : 0 ≤ n) (h₁ : n < 2 ^ 32) : IntKind.u32.wrap n = n := by rw [IntKind.wrap_u32]; omega
theorem wrap_u64 (n : Int) : IntKind.u64.wrap n = n % 18446744073709551616 := by simp [IntKind.wrap, IntKind.bits, IntKind.signed]
theorem wraps_u64 (n : Int) (h₀ : 0 ≤ n) (h₁ : n < 2 ^ 64) : IntKind.u64.wrap n = n := by rw [wrap_u64]; omega
theorem u32_and15 {x : Int} (h₀ : 0 ≤ x) (h₁ : x < 4294967296) : Go.bits .and .u32 x 15 = x % 16 := bits_mask .u32 32 (by decide) wraps_u32 4 (by decide) x h₀ h₁
theorem u32_and16 {x : Int} (h₀ : 0 ≤ x) (h₁ : x < 4294967296) : Go.bits .and .u32 x 65535 = x % 65536 := bits_mask .u32 32 (by decide) wraps_u32 16 (by decide) x h₀ h₁
theorem u64_and8 {x : Int} (h₀ : 0 ≤ x) (h₁ : x < 18446744073709551616) : Go.bits .and .u64 x 255 = x % 256 := bits_mask .u64 64 (by decide) wraps_u64 8 (by decide) x h₀ h₁
theorem u64_and16 {x : Int} (h₀ : 0 ≤ x) (h₁ : x < 18446744073709551616) : Go.bits .and .u64 x 65535 = x % 65536 := bits_mask .u64 64 (by decide) wraps_u64 16 (by decide) x h₀ h₁
theorem u64_and24 {x : Int} (h₀ : 0 ≤ x) (h₁ : x < 18446744073709551616) : Go.bits .and .u64 x 16777215 = x % 16777216 := bits_mask .u64 64 (by decide) wraps_u64 24 (by decide) x h₀ h₁
theorem u64_and32 {x : Int} (h₀ : 0 ≤ x) (h₁ : x < 18446744073709551616) : Go.bits .and .u64 x 4294967295 = x % 4294967296 := bits_mask .u64 64 (by decide) wraps_u64 32 (by decide) x h₀ h₁
theorem join32 {x y : Int} (i : Nat) (hx₀ : 0 ≤ x) (hx : x % 2 ^ i = 0) (hx₁ : x < 4294967296) (hy₀ : 0 ≤ y) (hy : y < 2 ^ i) (hy₁ : y < 4294967296) : Go.bits .or .u32 x y = x + y :=
  bits_join .u32 32 (by decide) wraps_u32 i x y hx₀ hx hx₁ hy₀ hy hy₁

theorem w64 {x : Int} (h0 : -9223372036854775808 ≤ x) (h1 : x ≤ 9223372036854775807) : wrap64 x = x := by unfold wrap64; omega
theorem shl_val (k : IntKind) (x : Int) (n m : Nat) (h : min n k.bits = m) : shl k x n = k.wrap (x * 2 ^ m) := by unfold shl; rw [Int.toNat_natCast, h]
end Go.Proofs.Ytdnfofhfllnhiaa.Lib
