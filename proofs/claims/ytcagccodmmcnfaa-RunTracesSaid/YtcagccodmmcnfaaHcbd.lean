/- Several texts in one, put together by automerge.py. Own work and the print's. -/
import Derived.Test.YtcagccodmmcnfaaOpn
import Derived.WalkSpells
import Derived.Laws.BitsLemmas
import Derived.Test.YtcagccodmmcnfaaWMore
section
-- Written by drv.py, a program of this session, over the kit's print, out of the translation. Not trusted: Lean checks it.
namespace Go.Proofs.Ytcagccodmmcnfaa.Q
def I64 (x : Int) : Prop := -9223372036854775808 ≤ x ∧ x ≤ 9223372036854775807
def U8 (x : Int) : Prop := 0 ≤ x ∧ x ≤ 255
def U32 (x : Int) : Prop := 0 ≤ x ∧ x ≤ 4294967295
end Go.Proofs.Ytcagccodmmcnfaa.Q
end
section
/- slices.Clone: what it comes to. Own work; a template. -/
namespace Go.Proofs.Ytcagccodmmcnfaa.Q
def slices_Clone_byte_byte.f (l0 : List Int) : Option (List Int) := if l0.length < 17592186044416 then some l0 else none
end Go.Proofs.Ytcagccodmmcnfaa.Q
end
section
/- slices.Clone of uint8: the contract by hand. Own work; a template. -/
namespace Go.Proofs.Ytcagccodmmcnfaa.Q
open Go.RowKit Go.Proofs.YtcagccodmmcnfaaW.PrintWords Go.Proofs.YtcagccodmmcnfaaW.PrintLast Go.Proofs.YtcagccodmmcnfaaW.PrintMore
set_option linter.unusedVariables false
set_option linter.unusedSimpArgs false
set_option maxHeartbeats 1000000 in
theorem slices_Clone_byte_byte.calls (A0 : Option Addr) (c0 : Nat) (l0 : List Int) (r : List Int) (w : World) (hr0 : Kd.C (Kd.int .u8) w A0 l0.length l0) (hc0 : l0.length ≤ c0) (h : slices_Clone_byte_byte.f l0 = some r) :
    Calls Try.prog 20 #[.slice A0 l0.length c0] w fun e w' => ∃ v0_ : Value, e = .returned (v0_) ∧ Kd.R (Kd.int .u8) 5 w' w.heap.size (fun _ => True) v0_ r ∧ Below w.heap.size w w' := by
  have hl : l0.length < 17592186044416 := by
    unfold slices_Clone_byte_byte.f at h
    split at h
    · assumption
    · cases h
  unfold slices_Clone_byte_byte.f at h
  rw [if_pos hl] at h
  obtain rfl := Option.some.inj h
  clear h
  have HR := Aside0.mk hr0
  have HL := Aside0.mk hl
  have HB := Aside0.mk (Below.refl w.heap.size w)
  clear hr0
  have he := fun (a : Option Addr) (n c : Nat) (w_ : World) => Go.Lib.run_eql_slice_nil (P := Try.prog) w_ 23 5 a n c 0 0 Try.underlying23
  cases A0 with
  | none =>
    go_enter Try.func20, Try.ntmps20
    go_wp2
    have e0 : l0 = [] := by
      by_cases hz : l0 = []
      · exact hz
      · exfalso
        have : 0 < l0.length := List.length_pos_iff.2 hz
        obtain ⟨ad, e, hx⟩ := Kd.at_int HR.out 0 (by omega) (by omega)
        cases e
    subst e0
    go_ret
    exact ⟨_, rfl, Kd.R_nil _ _ _ _ _, Below.refl _ _⟩
  | some a =>
    go_enter Try.func20, Try.ntmps20
    go_wp2_with (first | ((with_reducible refine gate_dst (N := 5) rfl ?_); refine Kd.R_lit (Kd.int .u8) _ 5 ?hg (N := 5) ?hd (xs := ([] : List Int)) (inner := []) (ok := fun _ => True) (okp := fun _ => True) ?hr ?hp (fun _ hk => hk) trivial (Below.refl _ _) (Nat.le_refl _) (by simp) ?_; (case hd => rfl); (case hg => rfl); (case hr => first | (go_simp; done) | (go_simp; rfl)); (case hp => exact (Reps.none _ _)); intro v1 w1 ho hb hg_ hnew_; clear hg_ hnew_; have HO := Aside0.mk ho; have HB := Aside0.mk hb; clear ho hb) | ((with_reducible refine gate_builtin (b := .append) (xs := #[.tmp 5, .tmp 6]) rfl ?_); at_builtin; refine Kd.R_append_rows (Kd.int .u8) (w0 := w) w.heap.size rfl (.tmp 5) (.tmp 6) 23 5 (.int .u8 0) 1 rfl Try.underlying23 info5 rfl (by decide) (by omega) v1 [] l0 _ _ _ (fun _ => True) (fun _ => False) rfl rfl ?aO ?aR (fun _ _ h => h) (fun _ h => h.elim) ?aF ?aB ?aS ?aL ?_; (case aR => exact Kd.C_below HR.out HB.out); (case aB => exact HB.out); (case aF => exact fun _ _ => trivial); (case aO => exact HO.out); (case aS => exact below_size HB.out); (case aL => have := HL.out; simp; omega); intro v2 w2 ho hb hg hat; have HB2 := Aside0.mk hb; have HO2 := Aside0.mk ho; clear ho hb hg hat))
    go_ret
    exact ⟨_, rfl, HO2.out, HB2.out⟩
end Go.Proofs.Ytcagccodmmcnfaa.Q
end
section
/- Bits of words, as whole numbers. Own work; a template: 'Ytcagccodmmcnfaa' is a seat's Name. -/
namespace Go.Proofs.Ytcagccodmmcnfaa.Lib
open Go.RowKit Go.Proofs.YtcagccodmmcnfaaW.PrintWords Go.Proofs.YtcagccodmmcnfaaW.PrintMore

theorem wraps_u32 (n : Int) (h₀ : 0 ≤ n) (h₁ : n < 2 ^ 32) : IntKind.u32.wrap n = n := by rw [IntKind.wrap_u32]; omega
theorem wrap_u64 (n : Int) : IntKind.u64.wrap n = n % 18446744073709551616 := by simp [IntKind.wrap, IntKind.bits, IntKind.signed]
theorem wraps_u64 (n : Int) (h₀ : 0 ≤ n) (h₁ : n < 2 ^ 64) : IntKind.u64.wrap n = n := by rw [wrap_u64]; omega
theorem u32_and15 {x : Int} (h₀ : 0 ≤ x) (h₁ : x < 4294967296) : Go.bits .and .u32 x 15 = x % 16 := bits_mask .u32 32 (by decide) wraps_u32 4 (by decide) x h₀ h₁
theorem u32_and16 {x : Int} (h₀ : 0 ≤ x) (h₁ : x < 4294967296) : Go.bits .and .u32 x 65535 = x % 65536 := bits_mask .u32 32 (by decide) wraps_u32 16 (by decide) x h₀ h₁
theorem u64_and8 {x : Int} (h₀ : 0 ≤ x) (h₁ : x < 18446744073709551616) : Go.bits .and .u64 x 255 = x % 256 := bits_mask .u64 64 (by decide) wraps_u64 8 (by decide) x h₀ h₁
theorem u64_and16 {x : Int} (h₀ : 0 ≤ x) (h₁ : x < 18446744073709551616) : Go.bits .and .u64 x 65535 = x % 65536 := bits_mask .u64 64 (by decide) wraps_u64 16 (by decide) x h₀ h₁
theorem u64_and24 {x : Int} (h₀ : 0 ≤ x) (h₁ : x < 18446744073709551616) : Go.bits .and .u64 x 16777215 = x % 16777216 := bits_mask .u64 64 (by decide) wraps_u64 24 (by decide) x h₀ h₁
theorem u64_and32 {x : Int} (h₀ : 0 ≤ x) (h₁ : x < 18446744073709551616) : Go.bits .and .u64 x 4294967295 = x % 4294967296 := bits_mask .u64 64 (by decide) wraps_u64 32 (by decide) x h₀ h₁
theorem join32 {x y : Int} (i : Nat) (hx₀ : 0 ≤ x) (hx : x % 2 ^ i = 0) (hx₁ : x < 4294967296) (hy₀ : 0 ≤ y) (hy : y < 2 ^ i) (hy₁ : y < 4294967296) : Go.bits .or .u32 x y = x + y :=
  bits_join .u32 32 (by decide) wraps_u32 i x y hx₀ hx hx₁ hy₀ hy hy₁

theorem w64 {x : Int} (h0 : -9223372036854775808 ≤ x) (h1 : x ≤ 9223372036854775807) : wrap64 x = x := by unfold wrap64; omega
theorem shl_val (k : IntKind) (x : Int) (n m : Nat) (h : min n k.bits = m) : shl k x n = k.wrap (x * 2 ^ m) := by unfold shl; rw [Int.toNat_natCast, h]
end Go.Proofs.Ytcagccodmmcnfaa.Lib
end
