-- Written by drv.py, a program of this session, over the kit's print, out of the translation. Not trusted: Lean checks it.
import Derived.Test.YtdnfofhfllnhiaaQD0
import Derived.Test.YtdnfofhfllnhiaaOpn
import Derived.KernelRfl
namespace Go.Proofs.Ytdnfofhfllnhiaa.Q
open Go.RowKit Go.Proofs.YtdnfofhfllnhiaaW.PrintWords Go.Proofs.YtdnfofhfllnhiaaW.PrintLast Go.Proofs.YtdnfofhfllnhiaaW.PrintMore
attribute [local go_sem] max2_int min2_int max_two min_two max_three min_three max_four min_four   -- for this text's walks alone
set_option linter.unusedVariables false
set_option linter.unusedSimpArgs false

theorem wf_i64 {x : Int} (h : (Lit.int .i64 x).wf = true) : I64 x := by
  simp [Lit.wf, IntKind.min, IntKind.max, IntKind.signed, IntKind.bits] at h
  unfold I64
  omega
theorem opn_i64 {P : Program} {t : TypeId} (hu : P.underlying t = some (.int .i64)) : Opn.Opn P t (Kd.int .i64) I64 := fun H enc W base spare held fuel cs x h hw => by
  obtain ⟨a, ha, hF⟩ := Opn.opn_int hu H enc W base spare held fuel cs x h hw
  exact ⟨a, ha, wf_i64 hF⟩
theorem wf_i32 {x : Int} (h : (Lit.int .i32 x).wf = true) : I32 x := by
  simp [Lit.wf, IntKind.min, IntKind.max, IntKind.signed, IntKind.bits] at h
  unfold I32
  omega
theorem opn_i32 {P : Program} {t : TypeId} (hu : P.underlying t = some (.int .i32)) : Opn.Opn P t (Kd.int .i32) I32 := fun H enc W base spare held fuel cs x h hw => by
  obtain ⟨a, ha, hF⟩ := Opn.opn_int hu H enc W base spare held fuel cs x h hw
  exact ⟨a, ha, wf_i32 hF⟩
theorem wf_u8 {x : Int} (h : (Lit.int .u8 x).wf = true) : U8 x := by
  simp [Lit.wf, IntKind.min, IntKind.max, IntKind.signed, IntKind.bits] at h
  unfold U8
  omega
theorem opn_u8 {P : Program} {t : TypeId} (hu : P.underlying t = some (.int .u8)) : Opn.Opn P t (Kd.int .u8) U8 := fun H enc W base spare held fuel cs x h hw => by
  obtain ⟨a, ha, hF⟩ := Opn.opn_int hu H enc W base spare held fuel cs x h hw
  exact ⟨a, ha, wf_u8 hF⟩
theorem wf_u16 {x : Int} (h : (Lit.int .u16 x).wf = true) : U16 x := by
  simp [Lit.wf, IntKind.min, IntKind.max, IntKind.signed, IntKind.bits] at h
  unfold U16
  omega
theorem opn_u16 {P : Program} {t : TypeId} (hu : P.underlying t = some (.int .u16)) : Opn.Opn P t (Kd.int .u16) U16 := fun H enc W base spare held fuel cs x h hw => by
  obtain ⟨a, ha, hF⟩ := Opn.opn_int hu H enc W base spare held fuel cs x h hw
  exact ⟨a, ha, wf_u16 hF⟩
theorem wf_u32 {x : Int} (h : (Lit.int .u32 x).wf = true) : U32 x := by
  simp [Lit.wf, IntKind.min, IntKind.max, IntKind.signed, IntKind.bits] at h
  unfold U32
  omega
theorem opn_u32 {P : Program} {t : TypeId} (hu : P.underlying t = some (.int .u32)) : Opn.Opn P t (Kd.int .u32) U32 := fun H enc W base spare held fuel cs x h hw => by
  obtain ⟨a, ha, hF⟩ := Opn.opn_int hu H enc W base spare held fuel cs x h hw
  exact ⟨a, ha, wf_u32 hF⟩
theorem wf_u64 {x : Int} (h : (Lit.int .u64 x).wf = true) : U64 x := by
  simp [Lit.wf, IntKind.min, IntKind.max, IntKind.signed, IntKind.bits] at h
  unfold U64
  omega
theorem opn_u64 {P : Program} {t : TypeId} (hu : P.underlying t = some (.int .u64)) : Opn.Opn P t (Kd.int .u64) U64 := fun H enc W base spare held fuel cs x h hw => by
  obtain ⟨a, ha, hF⟩ := Opn.opn_int hu H enc W base spare held fuel cs x h hw
  exact ⟨a, ha, wf_u64 hF⟩
theorem opn_S46 : Opn.Opn Try.prog 46 k46 W46 := Opn.opn_struct Try.underlying46 (by kernel_rfl) (fun a => ⟨a.1, a.2.1, a.2.2.1, a.2.2.2⟩) (fun _ => rfl) (Opn.opns_cons rfl (by kernel_rfl) (opn_i64 Try.underlying3) (Opn.opns_cons rfl (by kernel_rfl) (opn_i64 Try.underlying3) (Opn.opns_cons rfl (by kernel_rfl) (opn_i64 Try.underlying3) (Opn.opns_one rfl (by kernel_rfl) (opn_i64 Try.underlying3)))))
theorem opn_S44 : Opn.Opn Try.prog 44 k44 W44 := Opn.opn_struct Try.underlying44 (by kernel_rfl) (fun a => ⟨a.1, a.2.1, a.2.2.1, a.2.2.2.1, a.2.2.2.2⟩) (fun _ => rfl) (Opn.opns_cons rfl (by kernel_rfl) (Opn.opn_string Try.underlying9) (Opn.opns_cons rfl (by kernel_rfl) (Opn.opn_bool Try.underlying4) (Opn.opns_cons rfl (by kernel_rfl) (Opn.opn_bool Try.underlying4) (Opn.opns_cons rfl (by kernel_rfl) (Opn.opn_slice (B := 4) Try.underlying34 (by kernel_rfl) (by kernel_rfl) (opn_u32 Try.underlying47)) (Opn.opns_one rfl (by kernel_rfl) (Opn.opn_slice (B := 32) Try.underlying42 (by kernel_rfl) (by kernel_rfl) opn_S46))))))
theorem opn_S55 : Opn.Opn Try.prog 55 k55 W55 := Opn.opn_struct Try.underlying55 (by kernel_rfl) (fun a => ⟨a.1, a.2.1, a.2.2.1, a.2.2.2.1, a.2.2.2.2⟩) (fun _ => rfl) (Opn.opns_cons rfl (by kernel_rfl) (opn_i64 Try.underlying3) (Opn.opns_cons rfl (by kernel_rfl) (Opn.opn_bool Try.underlying4) (Opn.opns_cons rfl (by kernel_rfl) (opn_i64 Try.underlying3) (Opn.opns_cons rfl (by kernel_rfl) (Opn.opn_slice (B := 1) Try.underlying38 (by kernel_rfl) (by kernel_rfl) (opn_u8 Try.underlying5)) (Opn.opns_one rfl (by kernel_rfl) (Opn.opn_slice (B := 32) Try.underlying42 (by kernel_rfl) (by kernel_rfl) opn_S46))))))
theorem opn_S25 : Opn.Opn Try.prog 25 k25 W25 := Opn.opn_struct Try.underlying25 (by kernel_rfl) (fun a => ⟨a.1, a.2.1, a.2.2⟩) (fun _ => rfl) (Opn.opns_cons rfl (by kernel_rfl) (Opn.opn_slice (B := 72) Try.underlying22 (by kernel_rfl) (by kernel_rfl) opn_S44) (Opn.opns_cons rfl (by kernel_rfl) (Opn.opn_slice (B := 72) Try.underlying23 (by kernel_rfl) (by kernel_rfl) opn_S55) (Opn.opns_one rfl (by kernel_rfl) (opn_i64 Try.underlying3))))
end Go.Proofs.Ytdnfofhfllnhiaa.Q
