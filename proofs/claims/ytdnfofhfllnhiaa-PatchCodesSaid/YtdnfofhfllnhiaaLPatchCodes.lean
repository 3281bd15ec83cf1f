-- Written by drv.py, a program of this session, over the kit's print, out of the translation. Not trusted: Lean checks it.
/- The row of the law splicelaw13_PatchCodes: whatever its arguments, the call returns true, and each argument reads behind it as it read before. No conditions. -/
import Derived.Test.YtdnfofhfllnhiaaRows
import Derived.Test.YtdnfofhfllnhiaaQ42
import Derived.Test.YtdnfofhfllnhiaaPurePatchCodes
import Derived.Test.YtdnfofhfllnhiaaQR
import Derived.WalkKit
import Derived.ProofKit
import Derived.OpenShut
import Derived.ShutString
import Derived.ChangeOld
import Derived.Below
import Derived.SizedLaws
namespace Go.Proofs.Ytdnfofhfllnhiaa.patchCodes
open Go.ChangeShapes Go.WideShapes Go.ChangeAt Go.RowKit Go.Proofs.Ytdnfofhfllnhiaa.Q Go.Proofs.YtdnfofhfllnhiaaW.PrintWords
open Go.ChangeMaps (open_string shut_string)
set_option linter.unusedVariables false
theorem own : ownKnob Try.prog.godebug = none := by kernel_rfl
theorem laidOut : laidOutB Try.prog = true := by kernel_rfl
set_option maxRecDepth 100000 in
set_option maxHeartbeats 4000000 in
theorem lifted (os : Os) (started : os.Started) (H : Type) (enc : TypeId × Value → H) :
    ReturnsInHanded {} Try.checked os 3 .any (Rows.patchCodesSpec.pre6 enc Try.prog Try.f3 Rows.patchCodesRow.domain false) (Rows.patchCodesSpec.post enc Try.prog Try.f3 false true false false) := by
  refine returnsInHanded_of_change_sized (C := Try.checked) own started (by kernel_rfl) Try.func3
    (ChangeSpec.witness6 (enc := enc) (C := Try.checked) false ⟨#[], #[(.agg #[(.slice none 0 0), (.slice none 0 0), (.int .i64 0)]), (.slice none 0 0)], []⟩ 8 (by kernel_rfl) (by kernel_rfl) (by kernel_rfl) (by kernel_rfl)) ?_
  intro W base args ds gs before hval0 hW hcnd hsz0 _
  have hsz : (DataW.weightsEach Try.prog (Try.f3.params.toList ++ Rows.patchCodesSpec.plain.varTypes Try.prog) (ds ++ gs)).all (· ≤ reachBytes) = true := hsz0
  have hval : ∀ (j : Nat) t v, Try.f3.params[j]? = some t → args[j]? = some v → Value.okWide Try.prog W .any base t v := hval0
  have hW' := hW
  obtain ⟨p, q, hA0, hV, rfl, hfz, hnd⟩ := hW
  have hA : DataW.TrodAll enc Try.prog W 0 (fun _ => true) true Try.f3.params.toList args.toList ds p := hA0
  rw [Try.params3] at hA hval hsz
  obtain ⟨v0, vs0, d0, ds0, p0, q0, hargs, rfl, rfl, h0, r0⟩ := trodAll_cons hA
  obtain ⟨v1, vs1, d1, ds1, p1, q1, rfl, rfl, rfl, h1, r1⟩ := trodAll_cons r0
  obtain ⟨rfl, rfl, rfl⟩ := trodAll_nil r1
  obtain rfl : args = #[v0, v1] := by cases args; simp_all
  obtain ⟨rfl, rfl⟩ := trodVars_none hV
  obtain ⟨cs0, rfl, sz0⟩ := okWide_struct Try.underlying25 (hval 0 25 v0 rfl rfl)
  have k0 := h0
  have lt0 : ∀ x ∈ p0, x.block < W.heap.size := by obtain ⟨m, hm⟩ := k0; exact DataW.trod_lt m _ _ _ hm
  obtain ⟨x0, hk0, w0⟩ := Opn.opn_trod opn_S25 hsz (j := 0) (t := 25) rfl rfl h0
  obtain ⟨A0_0, c0_0, A0_1, c0_1, e0, hc0_0, hr0_0, hc0_1, hr0_1⟩ := k25_open hk0
  obtain rfl : cs0 = #[.slice A0_0 x0.f0.length c0_0, .slice A0_1 x0.f1.length c0_1, .int .i64 x0.f2] := by apply Array.ext'; exact e0
  obtain ⟨a1, len1, cap1, rfl⟩ := okWide_slice Try.underlying26 (hval 1 26 v1 rfl rfl)
  have k1 := h1
  have lt1 : ∀ x ∈ p1, x.block < W.heap.size := by obtain ⟨m, hm⟩ := k1; exact DataW.trod_lt m _ _ _ hm
  obtain ⟨x1, hk1, w1⟩ := Opn.opn_trod (Opn.opn_slice (B := 8) Try.underlying26 (by kernel_rfl) (by kernel_rfl) (opn_i64 Try.underlying3)) hsz (j := 1) (t := 26) rfl rfl h1
  obtain ⟨A1, c1, e1, hc1, hr1⟩ := hk1
  simp only [Value.cells, List.cons.injEq, and_true, Value.slice.injEq] at e1
  obtain ⟨rfl, rfl, rfl⟩ := e1
  clear hA0 hval0 hsz0 hsz
  obtain ⟨k, hp⟩ := Pure.PatchCodes x0 x1 w0 w1
  refine (splicelaw13_PatchCodes.calls k _ _ x0.f0 _ _ x0.f1 x0.f2 _ _ x1 true W hr0_0 hc0_0 hr0_1 hc0_1 hr1 hc1 hp).mono ?_
  rintro e W' ⟨rfl, hd⟩
  have bel : Below W.heap.size W W' := hd
  exact ⟨_, rfl, _, _, _, [], _, [], hW', trodAll_mk1 (shut_bool Try.underlying4 _), (trodAll_cons_mk (Below.trod laidOut (by kernel_rfl) (of_decide_eq_true (by kernel_rfl)) k0 bel lt0) (trodAll_cons_mk (Below.trod laidOut (by kernel_rfl) (of_decide_eq_true (by kernel_rfl)) k1 bel lt1) trodAll_mk0)), rfl, bel.frame _, fun h => by cases h⟩
theorem over : Rows.patchCodesRow.holds Try.pinned (OpenSpec.ofChange Rows.patchCodesSpec) :=
  OpenClaim.holds_of_wide 3 Try.f3 rfl rfl rfl rfl rfl rfl rfl ⟨rfl, rfl, rfl, rfl, rfl⟩ rfl rfl rfl rfl rfl (by kernel_rfl) Try.func3 (by kernel_rfl)
    (of_decide_eq_true (by kernel_rfl)) (by unfold Func.isWrapper; first | (rw [if_pos (by decide +kernel)]; kernel_rfl) | (rw [if_neg (by decide +kernel)]; exact ⟨rfl, rfl⟩))
    (fun os started H enc _ => lifted os started H enc)
theorem proved : Rows.PatchCodesSaid := over
#print axioms proved
end Go.Proofs.Ytdnfofhfllnhiaa.patchCodes
namespace Go.Proofs.Ytdnfofhfllnhiaa
theorem patchCodes_holds : Rows.PatchCodesSaid := patchCodes.proved
end Go.Proofs.Ytdnfofhfllnhiaa
