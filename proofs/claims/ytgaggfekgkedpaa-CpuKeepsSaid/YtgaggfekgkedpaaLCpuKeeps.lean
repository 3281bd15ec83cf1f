/- Several texts in one. Own work; written by merge.py. -/
import Derived.Test.YtgaggfekgkedpaaMxF
import Derived.Test.YtgaggfekgkedpaaMxG
import Derived.Test.YtgaggfekgkedpaaRows
import Derived.WalkKit
import Derived.ProofKit
import Derived.OpenShut
import Derived.ShutString
import Derived.ChangeOld
import Derived.Below
import Derived.SizedLaws
section
/- The law CpuKeeps: its contract. Own work; a template. -/
namespace Go.Proofs.Ytgaggfekgkedpaa.Cpu
open Go.RowKit Go.Proofs.YtgaggfekgkedpaaW.PrintWords Go.Proofs.YtgaggfekgkedpaaW.PrintLast Go.Proofs.YtgaggfekgkedpaaW.PrintMore Go.Proofs.Ytgaggfekgkedpaa.Hp Go.Proofs.Ytgaggfekgkedpaa.Q
set_option linter.unusedVariables false
set_option linter.unusedSimpArgs false
attribute [local go_sem] add_any
theorem sameF_refl (t : St) : sameF t t = true := by simp [sameF]
set_option maxHeartbeats 8000000 in
set_option maxRecDepth 100000 in
theorem keeps_few (A : Option Addr) (n c : Nat) (s : SV) (t : St) (w : World) (h : Aside0 (Rd w s t)) (hf : Aside0 (fewF t = false)) :
    Calls Try.prog 6 #[.slice A n c, .agg s.c] w fun e w' => e = .returned (.bool true) ∧ Below w.heap.size w w' := by
  have H := Hp.nil w
  go_enter Try.func6, Try.ntmps6
  go_wp2_with (first | ((with_reducible refine gate_guardG ?_); refine hp_guardLG rfl rfl ?_; (with_reducible first | refine go_tt ?_ | refine go_ff ?_ | refine go_tf ?_ | refine go_ft ?_); (try simp only [Act.put, List.setIfInBounds_toArray, List.set_cons_zero, List.set_cons_succ])) | ((with_reducible refine gate_boxG ?_); (refine hp_boxG H rfl rfl rfl ?_; intro g_ W_ H_; clear H; have H := H_; clear H_); (try simp only [Act.put, List.setIfInBounds_toArray, List.set_cons_zero, List.set_cons_succ])) | ((with_reducible refine gate_loadG ?_); (first | (refine hp_wholeG H rfl (ty := 32) rfl rfl (by repeat (first | exact .head _ | refine .tail _ ?_)) (by kernel_rfl) (by kernel_rfl) ?_)); (try simp only [Act.put, List.setIfInBounds_toArray, List.set_cons_zero, List.set_cons_succ])) | ((with_reducible refine gate_fnG ?_); (refine hp_goesG H rfl (f := 7) rfl Try.func7 (by kernel_rfl) rfl (awake_c _) (by (try simp only [List.map_toArray, List.map_cons, List.map_nil]); first | done | rfl) ?_; rintro e_ W_ ⟨rfl, hb_⟩; refine ⟨_, rfl, hb_, fun H_ => ?_⟩; clear H; have H := H_; clear H_); (try simp only [Act.put, List.setIfInBounds_toArray, List.set_cons_zero, List.set_cons_succ])) | ((with_reducible refine gate_fnG ?_); (refine hp_goesG H rfl (f := 8) rfl Try.func8 (by kernel_rfl) rfl (few_c s t _ ⟨h.out.below H.below⟩ hf.out) (by (try simp only [List.map_toArray, List.map_cons, List.map_nil]); first | done | rfl) ?_; rintro e_ W_ ⟨rfl, hb_⟩; refine ⟨_, rfl, hb_, fun H_ => ?_⟩; clear H; have H := H_; clear H_); (try simp only [Act.put, List.setIfInBounds_toArray, List.set_cons_zero, List.set_cons_succ])))
  go_ret
  exact ⟨rfl, H.below⟩
set_option maxHeartbeats 8000000 in
set_option maxRecDepth 100000 in
theorem keeps_long (A : Option Addr) (n c : Nat) (s : SV) (t : St) (w : World) (h : Aside0 (Rd w s t)) (hf : Aside0 (fewF t = true)) (h5 : decide ((n : Int) > 500) = true) (h5' : decide (500 < n) = true) :
    Calls Try.prog 6 #[.slice A n c, .agg s.c] w fun e w' => e = .returned (.bool true) ∧ Below w.heap.size w w' := by
  have H := Hp.nil w
  go_enter Try.func6, Try.ntmps6
  go_wp2_with (first | ((with_reducible refine gate_guardG ?_); refine hp_guardLG rfl rfl ?_; (with_reducible first | refine go_tt ?_ | refine go_ff ?_ | refine go_tf ?_ | refine go_ft ?_); (try simp only [Act.put, List.setIfInBounds_toArray, List.set_cons_zero, List.set_cons_succ])) | ((with_reducible refine gate_boxG ?_); (refine hp_boxG H rfl rfl rfl ?_; intro g_ W_ H_; clear H; have H := H_; clear H_); (try simp only [Act.put, List.setIfInBounds_toArray, List.set_cons_zero, List.set_cons_succ])) | ((with_reducible refine gate_loadG ?_); (first | (refine hp_wholeG H rfl (ty := 32) rfl rfl (by repeat (first | exact .head _ | refine .tail _ ?_)) (by kernel_rfl) (by kernel_rfl) ?_)); (try simp only [Act.put, List.setIfInBounds_toArray, List.set_cons_zero, List.set_cons_succ])) | ((with_reducible refine gate_fnG ?_); (refine hp_goesG H rfl (f := 7) rfl Try.func7 (by kernel_rfl) rfl (awake_c _) (by (try simp only [List.map_toArray, List.map_cons, List.map_nil]); first | done | rfl) ?_; rintro e_ W_ ⟨rfl, hb_⟩; refine ⟨_, rfl, hb_, fun H_ => ?_⟩; clear H; have H := H_; clear H_); (try simp only [Act.put, List.setIfInBounds_toArray, List.set_cons_zero, List.set_cons_succ])) | ((with_reducible refine gate_fnG ?_); (refine hp_goesG H rfl (f := 8) rfl Try.func8 (by kernel_rfl) rfl (few_c s t _ ⟨h.out.below H.below⟩ hf.out) (by (try simp only [List.map_toArray, List.map_cons, List.map_nil]); first | done | rfl) ?_; rintro e_ W_ ⟨rfl, hb_⟩; refine ⟨_, rfl, hb_, fun H_ => ?_⟩; clear H; have H := H_; clear H_); (try simp only [Act.put, List.setIfInBounds_toArray, List.set_cons_zero, List.set_cons_succ])))
  go_ret
  exact ⟨rfl, H.below⟩
set_option maxHeartbeats 8000000 in
set_option maxRecDepth 100000 in
theorem keeps_main (A : Option Addr) (n c : Nat) (ws : List Int) (s : SV) (t : St) (w : World) (h : Aside0 (Rd w s t)) (hl : Aside0 (RdS .u32 w A n c ws)) (hws : Aside0 (∀ x ∈ ws, U32 x)) (hu : Aside0 (∀ x ∈ t.inp, 0 ≤ x ∧ x ≤ 255)) (hf : Aside0 (fewF t = true)) (h5 : decide ((n : Int) > 500) = false) (h5' : decide (500 < n) = false) :
    Calls Try.prog 6 #[.slice A n c, .agg s.c] w fun e w' => e = .returned (.bool true) ∧ Below w.heap.size w w' := by
  have hb := Aside0.mk (few_b h.out hf.out)
  have hn5 : Aside0 (n ≤ 500) := ⟨by simpa using h5'⟩
  have H := Hp.nil w
  go_enter Try.func6, Try.ntmps6
  go_wp2_with (first | ((with_reducible refine gate_guardG ?_); refine hp_guardLG rfl rfl ?_; (with_reducible first | refine go_tt ?_ | refine go_ff ?_ | refine go_tf ?_ | refine go_ft ?_); (try simp only [Act.put, List.setIfInBounds_toArray, List.set_cons_zero, List.set_cons_succ])) | ((with_reducible refine gate_dst (N := 3) rfl ?_); refine hp_box H rfl rfl rfl ?_; intro gs W_ H_; clear H; have H := H_; clear H_) | ((with_reducible refine gate_dst (N := 47) rfl ?_); have fS := Aside0.mk (H.heap (g := gs) (cs := s.c) (t := 32) (by repeat (first | exact .head _ | refine .tail _ ?_))); have fW := Aside0.mk (H.heap (g := gw) (cs := SV.c { s with back := ⟨some ⟨gB, 0, none⟩, s.back.n, capB⟩, byt := ⟨some ⟨gC, 0, none⟩, s.byt.n, capC⟩, inp := ⟨some ⟨gD, 0, none⟩, s.inp.n, capD⟩, out := ⟨some ⟨gE, 0, none⟩, s.out.n, capE⟩ }) (t := 32) (by repeat (first | exact .head _ | refine .tail _ ?_))); have hRw := Aside0.mk (H.rdsO (g := gA) (by repeat (first | exact .head _ | refine .tail _ ?_)) hoA.out); have hRd : Aside0 (Rd W_ { s with back := ⟨some ⟨gB, 0, none⟩, s.back.n, capB⟩, byt := ⟨some ⟨gC, 0, none⟩, s.byt.n, capC⟩, inp := ⟨some ⟨gD, 0, none⟩, s.inp.n, capD⟩, out := ⟨some ⟨gE, 0, none⟩, s.out.n, capE⟩ } t) := ⟨⟨h.out.at_, h.out.R, h.out.n16, H.rdsO (g := gB) (by repeat (first | exact .head _ | refine .tail _ ?_)) hoB.out, h.out.wr, H.rdsO (g := gC) (by repeat (first | exact .head _ | refine .tail _ ?_)) hoC.out, H.rdsO (g := gD) (by repeat (first | exact .head _ | refine .tail _ ?_)) hoD.out, H.rdsO (g := gE) (by repeat (first | exact .head _ | refine .tail _ ?_)) hoE.out, h.out.en, h.out.code, h.out.flt⟩⟩; have hw1 := Aside0.mk H.below; clear H; rename World => Wb; have H := Hp.nil Wb; ((with_reducible refine gate_loadG ?_); refine hp_wholeXG (ty := 32) rfl rfl rfl ((H.below.block _ (blk_lt fS.out)).trans fS.out) (by kernel_rfl) (by kernel_rfl) ?_; (try simp only [Act.put, List.setIfInBounds_toArray, List.set_cons_zero, List.set_cons_succ]))) | ((with_reducible refine gate_loadG ?_); (first | (refine hp_wholeG H rfl (ty := 32) rfl rfl (by repeat (first | exact .head _ | refine .tail _ ?_)) (by kernel_rfl) (by kernel_rfl) ?_)); (try simp only [Act.put, List.setIfInBounds_toArray, List.set_cons_zero, List.set_cons_succ])) | ((with_reducible refine gate_fnG ?_); (refine hp_goesG H rfl (f := 7) rfl Try.func7 (by kernel_rfl) rfl (awake_c _) (by (try simp only [List.map_toArray, List.map_cons, List.map_nil]); first | done | rfl) ?_; rintro e_ W_ ⟨rfl, hb_⟩; refine ⟨_, rfl, hb_, fun H_ => ?_⟩; clear H; have H := H_; clear H_); (try simp only [Act.put, List.setIfInBounds_toArray, List.set_cons_zero, List.set_cons_succ])) | ((with_reducible refine gate_fnG ?_); (refine hp_goesG H rfl (f := 8) rfl Try.func8 (by kernel_rfl) rfl (few_c s t _ ⟨h.out.below H.below⟩ hf.out) (by (try simp only [List.map_toArray, List.map_cons, List.map_nil]); first | done | rfl) ?_; rintro e_ W_ ⟨rfl, hb_⟩; refine ⟨_, rfl, hb_, fun H_ => ?_⟩; clear H; have H := H_; clear H_); (try simp only [Act.put, List.setIfInBounds_toArray, List.set_cons_zero, List.set_cons_succ])) | ((with_reducible refine gate_litG ?_); (refine hp_litG H rfl rfl (by first | (go_simp; done) | (go_simp; rfl)) ?_; intro g_ W_ H_; clear H; have H := H_; clear H_); (try simp only [Act.put, List.setIfInBounds_toArray, List.set_cons_zero, List.set_cons_succ])) | ((with_reducible refine gate_dst (N := 6) rfl ?_); refine hp_alloc H rfl rfl (fun w_ => by go_simp; rfl) ?_; intro gw W_ H_; clear H; have H := H_; clear H_) | ((with_reducible refine gate_dst (N := 7) rfl ?_); refine hp_alloc H rfl rfl (fun w_ => by go_simp; rfl) ?_; intro gf W_ H_; clear H; have H := H_; clear H_) | ((with_reducible refine gate_loadG ?_); (refine hp_loadG H rfl rfl rfl (by repeat (first | exact .head _ | refine .tail _ ?_)) (by kernel_rfl) (by first | exact g_back _ | exact g_byt _ | exact g_inp _ | exact g_out _) ?_); (try simp only [Act.put, List.setIfInBounds_toArray, List.set_cons_zero, List.set_cons_succ])) | ((with_reducible refine gate_dst (N := 23) rfl ?_); ((with_reducible refine gate_appG ?_); (refine hp_appG H rfl rfl Try.underlying22 (k := .u32) 4 (by kernel_rfl) (by decide) rfl (by first | exact List.Perm.refl _ | exact List.Perm.swap _ _ _) (lit_own _ _ _) rfl (hl.out.below H.below) (by have := hn5.out; omega) (by first | exact Nat.zero_add _ | rfl) (by first | exact List.nil_append _ | rfl) ?_; intro gA curA capA W_ hoA H_; replace hoA := Aside0.mk hoA; clear H; have H := H_; clear H_); (try simp only [Act.put, List.setIfInBounds_toArray, List.set_cons_zero, List.set_cons_succ]))) | ((with_reducible refine gate_dst (N := 28) rfl ?_); ((with_reducible refine gate_appG ?_); (refine hp_appG H rfl rfl Try.underlying28 (k := .i64) 8 (by kernel_rfl) (by decide) rfl (by first | exact List.Perm.refl _ | exact List.Perm.swap _ _ _) (lit_own _ _ _) rfl (h.out.back.below H.below) (by have := hb.out; omega) (by first | exact Nat.zero_add _ | rfl) (by first | exact List.nil_append _ | rfl) ?_; intro gB curB capB W_ hoB H_; replace hoB := Aside0.mk hoB; clear H; have H := H_; clear H_); (try simp only [Act.put, List.setIfInBounds_toArray, List.set_cons_zero, List.set_cons_succ]))) | ((with_reducible refine gate_dst (N := 34) rfl ?_); ((with_reducible refine gate_appG ?_); (refine hp_appG H rfl rfl Try.underlying23 (k := .u8) 1 (by kernel_rfl) (by decide) rfl (by first | exact List.Perm.refl _ | exact List.Perm.swap _ _ _) (lit_own _ _ _) rfl (h.out.byt.below H.below) (by have := hb.out; omega) (by first | exact Nat.zero_add _ | rfl) (by first | exact List.nil_append _ | rfl) ?_; intro gC curC capC W_ hoC H_; replace hoC := Aside0.mk hoC; clear H; have H := H_; clear H_); (try simp only [Act.put, List.setIfInBounds_toArray, List.set_cons_zero, List.set_cons_succ]))) | ((with_reducible refine gate_dst (N := 40) rfl ?_); ((with_reducible refine gate_appG ?_); (refine hp_appG H rfl rfl Try.underlying23 (k := .u8) 1 (by kernel_rfl) (by decide) rfl (by first | exact List.Perm.refl _ | exact List.Perm.swap _ _ _) (lit_own _ _ _) rfl (h.out.inp.below H.below) (by have := hb.out; omega) (by first | exact Nat.zero_add _ | rfl) (by first | exact List.nil_append _ | rfl) ?_; intro gD curD capD W_ hoD H_; replace hoD := Aside0.mk hoD; clear H; have H := H_; clear H_); (try simp only [Act.put, List.setIfInBounds_toArray, List.set_cons_zero, List.set_cons_succ]))) | ((with_reducible refine gate_dst (N := 45) rfl ?_); ((with_reducible refine gate_appG ?_); (refine hp_appG H rfl rfl Try.underlying23 (k := .u8) 1 (by kernel_rfl) (by decide) rfl (by first | exact List.Perm.refl _ | exact List.Perm.swap _ _ _) (lit_own _ _ _) rfl (h.out.out.below H.below) (by have := hb.out; omega) (by first | exact Nat.zero_add _ | rfl) (by first | exact List.nil_append _ | rfl) ?_; intro gE curE capE W_ hoE H_; replace hoE := Aside0.mk hoE; clear H; have H := H_; clear H_); (try simp only [Act.put, List.setIfInBounds_toArray, List.set_cons_zero, List.set_cons_succ]))) | ((with_reducible refine gate_storeG ?_); ((first | (refine hp_store0G H rfl rfl rfl rfl rfl (by kernel_rfl) (by first | rfl | exact fit_.out) (by rfl) (by first | exact sv_all _ rfl | exact sv_back _ _ _ _ | exact sv_byt _ _ _ _ | exact sv_inp _ _ _ _ | exact sv_out _ _ _ _) ?_) | (refine hp_store1G H rfl rfl rfl rfl rfl (by kernel_rfl) (by first | rfl | exact fit_.out) (by rfl) (by first | exact sv_all _ rfl | exact sv_back _ _ _ _ | exact sv_byt _ _ _ _ | exact sv_inp _ _ _ _ | exact sv_out _ _ _ _) ?_) | (refine hp_store2G H rfl rfl rfl rfl rfl (by kernel_rfl) (by first | rfl | exact fit_.out) (by rfl) (by first | exact sv_all _ rfl | exact sv_back _ _ _ _ | exact sv_byt _ _ _ _ | exact sv_inp _ _ _ _ | exact sv_out _ _ _ _) ?_) | (refine hp_store3G H rfl rfl rfl rfl rfl (by kernel_rfl) (by first | rfl | exact fit_.out) (by rfl) (by first | exact sv_all _ rfl | exact sv_back _ _ _ _ | exact sv_byt _ _ _ _ | exact sv_inp _ _ _ _ | exact sv_out _ _ _ _) ?_) | (refine hp_store4G H rfl rfl rfl rfl rfl (by kernel_rfl) (by first | rfl | exact fit_.out) (by rfl) (by first | exact sv_all _ rfl | exact sv_back _ _ _ _ | exact sv_byt _ _ _ _ | exact sv_inp _ _ _ _ | exact sv_out _ _ _ _) ?_)); intro W_ H_; clear H; have H := H_; clear H_); (try simp only [Act.put, List.setIfInBounds_toArray, List.set_cons_zero, List.set_cons_succ])))
  refine wp_region_held_drew (S := fun W' => Below Wb.heap.size Wb W') (by kernel_rfl) H.drew.below (fun hHeld => ?_)
  change wpAnyH _ _ _ _ _ 12 (Array.replicate 12 false) _ _
  replace H := H.drew
  (refine hk_take (i := 1) (v := ?_) rfl (by kernel_rfl) (by kernel_rfl) (by kernel_rfl) (fun _ _ _ h => h) (Or.inl ⟨by rfl, ?_⟩) hHeld ?_; rotate_left 1; (intro w_ hSw_; go_simp; with_reducible rfl); (try simp only [Act.put, List.setIfInBounds_toArray, List.set_cons_zero, List.set_cons_succ]))
  (refine hk_take (i := 2) rfl (by kernel_rfl) (by kernel_rfl) (by kernel_rfl) (fun _ _ _ h => h) (yl_load rfl rfl rfl (fun w_ h_ => (h_.block _ (blk_lt fS.out)).trans fS.out) (by kernel_rfl) (g_out s)) hHeld ?_; (try simp only [Act.put, List.setIfInBounds_toArray, List.set_cons_zero, List.set_cons_succ]))
  (refine hk_take (i := 6) (v := ?_) rfl (by kernel_rfl) (by kernel_rfl) (by kernel_rfl) (fun _ _ _ h => h) (Or.inl ⟨by rfl, ?_⟩) hHeld ?_; rotate_left 1; (intro w_ hSw_; go_simp; with_reducible rfl); (try simp only [Act.put, List.setIfInBounds_toArray, List.set_cons_zero, List.set_cons_succ]))
  (refine hk_take (i := 7) rfl (by kernel_rfl) (by kernel_rfl) (by kernel_rfl) (fun _ _ _ h => h) (yl_load rfl rfl rfl (fun w_ h_ => (h_.block _ (blk_lt fS.out)).trans fS.out) (by kernel_rfl) (g_out s)) hHeld ?_; (try simp only [Act.put, List.setIfInBounds_toArray, List.set_cons_zero, List.set_cons_succ]))
  (refine hk_take (i := 8) (v := ?_) rfl (by kernel_rfl) (by kernel_rfl) (by kernel_rfl) (fun _ _ _ h => h) (Or.inl ⟨by rfl, ?_⟩) hHeld ?_; rotate_left 1; (intro w_ hSw_; go_simp; with_reducible rfl); (try simp only [Act.put, List.setIfInBounds_toArray, List.set_cons_zero, List.set_cons_succ]))
  refine hk_op2 (i := 0) (j := 4) rfl rfl (by kernel_rfl) (fun K hK => ?_) (fun K hK => ?_)
  refine hs_lit H rfl rfl (by first | (go_simp; done) | (go_simp; rfl)) ?_
  intro g0 W_ H_
  clear H
  have H := H_
  clear H_
  refine hK.out _ _ H.below (fun hHeld => ?_)
  clear hK K
  (try simp only [Act.put, List.setIfInBounds_toArray, List.set_cons_zero, List.set_cons_succ])
  refine hk_op2 (i := 3) (j := 4) rfl rfl (by kernel_rfl) (fun K hK => ?_) (fun K hK => ?_)
  refine hs_app H rfl rfl Try.underlying23 (k := .u8) 1 (by kernel_rfl) (by decide) rfl (by first | exact List.Perm.refl _ | exact List.Perm.swap _ _ _) (lit_own _ _ _) rfl (h.out.out.below (below_step hw1.out H.below)) (by have := hb.out; omega) (Nat.zero_add _) (List.nil_append _) ?_
  intro gO curO capO W_ hoO H_
  clear H
  have H := H_
  clear H_
  replace hoO := Aside0.mk hoO
  refine hK.out _ _ H.below (fun hHeld => ?_)
  clear hK K
  (try simp only [Act.put, List.setIfInBounds_toArray, List.set_cons_zero, List.set_cons_succ])
  (refine hk_op (i := 4) rfl (by kernel_rfl) (fun K hK => ?_))
  refine hs_lit H rfl rfl (by first | (go_simp; done) | (go_simp; rfl)) ?_
  intro g4 W_ H_
  clear H
  have H := H_
  clear H_
  refine hK.out _ _ H.below (fun hHeld => ?_)
  clear hK K
  (try simp only [Act.put, List.setIfInBounds_toArray, List.set_cons_zero, List.set_cons_succ])
  rotate_left
  refine hs_lit H rfl rfl (by first | (go_simp; done) | (go_simp; rfl)) ?_
  intro g4 W_ H_
  clear H
  have H := H_
  clear H_
  refine hK.out _ _ H.below (fun hHeld => ?_)
  clear hK K
  (try simp only [Act.put, List.setIfInBounds_toArray, List.set_cons_zero, List.set_cons_succ])
  (refine hk_op (i := 3) rfl (by kernel_rfl) (fun K hK => ?_))
  refine hs_app H rfl rfl Try.underlying23 (k := .u8) 1 (by kernel_rfl) (by decide) rfl (by first | exact List.Perm.refl _ | exact List.Perm.swap _ _ _) (lit_own _ _ _) rfl (h.out.out.below (below_step hw1.out H.below)) (by have := hb.out; omega) (Nat.zero_add _) (List.nil_append _) ?_
  intro gO curO capO W_ hoO H_
  clear H
  have H := H_
  clear H_
  replace hoO := Aside0.mk hoO
  refine hK.out _ _ H.below (fun hHeld => ?_)
  clear hK K
  (try simp only [Act.put, List.setIfInBounds_toArray, List.set_cons_zero, List.set_cons_succ])
  rotate_left
  refine hs_lit H rfl rfl (by first | (go_simp; done) | (go_simp; rfl)) ?_
  intro g4 W_ H_
  clear H
  have H := H_
  clear H_
  refine hK.out _ _ H.below (fun hHeld => ?_)
  clear hK K
  (try simp only [Act.put, List.setIfInBounds_toArray, List.set_cons_zero, List.set_cons_succ])
  (refine hk_op (i := 0) rfl (by kernel_rfl) (fun K hK => ?_))
  refine hs_lit H rfl rfl (by first | (go_simp; done) | (go_simp; rfl)) ?_
  intro g0 W_ H_
  clear H
  have H := H_
  clear H_
  refine hK.out _ _ H.below (fun hHeld => ?_)
  clear hK K
  (try simp only [Act.put, List.setIfInBounds_toArray, List.set_cons_zero, List.set_cons_succ])
  (refine hk_op (i := 3) rfl (by kernel_rfl) (fun K hK => ?_))
  refine hs_app H rfl rfl Try.underlying23 (k := .u8) 1 (by kernel_rfl) (by decide) rfl (by first | exact List.Perm.refl _ | exact List.Perm.swap _ _ _) (lit_own _ _ _) rfl (h.out.out.below (below_step hw1.out H.below)) (by have := hb.out; omega) (Nat.zero_add _) (List.nil_append _) ?_
  intro gO curO capO W_ hoO H_
  clear H
  have H := H_
  clear H_
  replace hoO := Aside0.mk hoO
  refine hK.out _ _ H.below (fun hHeld => ?_)
  clear hK K
  (try simp only [Act.put, List.setIfInBounds_toArray, List.set_cons_zero, List.set_cons_succ])
  rotate_left
  all_goals replace H := H.perm (show List.Perm _ [(gO, curO, 5), (g4, #[.int .u8 91], 5), (gf, s.c, 32)] by first | exact List.Perm.refl _ | exact List.Perm.swap _ _ _)
  all_goals (refine hk_op (i := 5) rfl (by kernel_rfl) (fun K hK => ?_))
  all_goals refine hs_app H rfl rfl Try.underlying23 (k := .u8) 1 (by kernel_rfl) (by decide) rfl (List.Perm.refl _) hoO.out rfl (H.rds (cur := #[.int .u8 91]) (l := [91]) (by repeat (first | exact .head _ | refine .tail _ ?_)) rfl rfl (by decide) (by decide)) (by have := hb.out; omega) rfl rfl ?_
  all_goals intro gF curF capF W_ hoF H_
  all_goals clear H
  all_goals have H := H_
  all_goals clear H_
  all_goals replace hoF := Aside0.mk hoF
  all_goals have hcF : s.out.n + 1 ≤ capF := hoF.out.le
  all_goals have hcF0 : s.out.n ≤ capF := Nat.le_trans (Nat.le_succ _) hcF
  all_goals refine hK.out _ _ H.below (fun hHeld => ?_)
  all_goals clear hK K
  all_goals (try simp only [Act.put, List.setIfInBounds_toArray, List.set_cons_zero, List.set_cons_succ])
  all_goals ((refine hk_take (i := 9) (v := ?_) rfl (by kernel_rfl) (by kernel_rfl) (by kernel_rfl) (fun _ _ _ h => h) (Or.inl ⟨by rfl, ?_⟩) hHeld ?_; rotate_left 1; (intro w_ hSw_; go_simp; with_reducible rfl); (try simp only [Act.put, List.setIfInBounds_toArray, List.set_cons_zero, List.set_cons_succ])))
  all_goals ((refine hk_take (i := 10) (v := ?_) rfl (by kernel_rfl) (by kernel_rfl) (by kernel_rfl) (fun _ _ _ h => h) (Or.inl ⟨by rfl, ?_⟩) hHeld ?_; rotate_left 1; (intro w_ hSw_; go_simp; with_reducible rfl); (try simp only [Act.put, List.setIfInBounds_toArray, List.set_cons_zero, List.set_cons_succ])))
  all_goals (refine hk_op (i := 11) rfl (by kernel_rfl) (fun K hK => ?_))
  all_goals refine hs_store H rfl rfl rfl rfl (n := 2) rfl rfl (by kernel_rfl) (by rfl) (by rfl) (sv_out s (some ⟨gF, 0, none⟩) s.out.n capF) rfl ?_
  all_goals intro W_ H_
  all_goals clear H
  all_goals have H := H_
  all_goals clear H_
  all_goals refine hK.out _ _ H.below (fun hHeld => ?_)
  all_goals clear hK K
  all_goals (try simp only [Act.put, List.setIfInBounds_toArray, List.set_cons_zero, List.set_cons_succ])
  all_goals (refine wpAnyH_done (by kernel_rfl) ?_ _)
  all_goals clear hHeld
  all_goals
    replace H : Hp Wb _ [(gF, curF, 5), (g4, #[.int .u8 91], 5), (gf, SV.c { s with out := ⟨some ⟨gF, 0, none⟩, s.out.n, capF⟩ }, 32)] := H
    have hlen := h.out.out.1
    have hRf : Aside0 (∀ W9, Hp Wb W9 [(gF, curF, 5), (g4, #[.int .u8 91], 5), (gf, SV.c { s with out := ⟨some ⟨gF, 0, none⟩, s.out.n, capF⟩ }, 32)] → Rd W9 { s with out := ⟨some ⟨gF, 0, none⟩, s.out.n, capF⟩ } t) := ⟨fun W9 h9 => ⟨h.out.at_, h.out.R, h.out.n16, h.out.back.below (below_step hw1.out h9.below), h.out.wr, h.out.byt.below (below_step hw1.out h9.below), h.out.inp.below (below_step hw1.out h9.below), h9.rdsO (g := gF) (cur := curF) (e := 5) (.head _) (hoF.out.pre hlen), h.out.en, h.out.code, h.out.flt⟩⟩
    replace hlen := Aside0.mk hlen
    go_wp2_with (first | ((with_reducible refine gate_guardG ?_); refine hp_guardLG rfl rfl ?_; (with_reducible first | refine go_tt ?_ | refine go_ff ?_ | refine go_tf ?_ | refine go_ft ?_); (try simp only [Act.put, List.setIfInBounds_toArray, List.set_cons_zero, List.set_cons_succ])) | ((with_reducible refine gate_dst (N := 60) rfl ?_); ((with_reducible refine gate_loadG ?_); refine hp_wholeXG (ty := 32) rfl rfl rfl ((H.below.block _ (blk_lt fS.out)).trans fS.out) (by kernel_rfl) (by kernel_rfl) ?_; (try simp only [Act.put, List.setIfInBounds_toArray, List.set_cons_zero, List.set_cons_succ]))) | ((with_reducible refine gate_dst (N := 61) rfl ?_); ((with_reducible refine gate_fnG ?_); (refine hp_goesG H rfl (f := 13) rfl Try.func13 (by kernel_rfl) rfl (step_c (s) t A n c ws _ (h.out.below (below_step hw1.out H.below)) (hl.out.below (below_step hw1.out H.below)) hws.out (by have := hb.out; have := h.out.byt.1; omega) (by have := hb.out; have := h.out.back.1; omega) hu.out) (by (try simp only [List.map_toArray, List.map_cons, List.map_nil]); first | done | rfl) ?_; rintro e_ W_ ⟨_, rfl, _, hb_⟩; refine ⟨_, rfl, hb_, fun H_ => ?_⟩; clear H; have H := H_; clear H_); (try simp only [Act.put, List.setIfInBounds_toArray, List.set_cons_zero, List.set_cons_succ]))) | ((with_reducible refine gate_loadG ?_); (first | (refine hp_wholeG H rfl (ty := 32) rfl rfl (by repeat (first | exact .head _ | refine .tail _ ?_)) (by kernel_rfl) (by kernel_rfl) ?_)); (try simp only [Act.put, List.setIfInBounds_toArray, List.set_cons_zero, List.set_cons_succ])) | ((with_reducible refine gate_dst (N := 64) rfl ?_); ((with_reducible refine gate_fnG ?_); (refine hp_goesG H rfl (f := 13) rfl Try.func13 (by kernel_rfl) rfl (step_c ({ s with out := ⟨some ⟨gF, 0, none⟩, s.out.n, capF⟩ }) t A n c ws _ (hRf.out _ H) (hl.out.below (below_step hw1.out H.below)) hws.out (by have := hb.out; have := h.out.byt.1; omega) (by have := hb.out; have := h.out.back.1; omega) hu.out) (by (try simp only [List.map_toArray, List.map_cons, List.map_nil]); first | done | rfl) ?_; rintro e_ W_ ⟨_, rfl, _, hb_⟩; refine ⟨_, rfl, hb_, fun H_ => ?_⟩; clear H; have H := H_; clear H_); (try simp only [Act.put, List.setIfInBounds_toArray, List.set_cons_zero, List.set_cons_succ]))))
    have hwr : IntKind.i64.wrap ((s.out.n : Int) + 1) = (s.out.n : Int) + 1 := by have := hb.out; rw [IntKind.wrap_i64]; omega
    have hi0 : (0 : Int) ≤ (s.out.n : Int) + 1 := by omega
    have hi1 : (s.out.n : Int) + 1 ≤ (capF : Int) := by omega
    have hi3 : (s.out.n : Int) < (s.out.n : Int) + 1 := by omega
    have hi2 : ((s.out.n : Int) + 1).toNat = s.out.n + 1 := by omega
    have hlast := Aside0.mk (hoF.out.last hlen.out)
    have hh := H.drew
    clear H
    refine wp_region_held_drew (S := fun W' => Hp Wb W' [(gF, curF, 5), (g4, #[.int .u8 91], 5), (gf, SV.c { s with out := ⟨some ⟨gF, 0, none⟩, s.out.n, capF⟩ }, 32)]) (by kernel_rfl) hh (fun hHeld => ?_)
    change wpAnyH _ _ _ _ _ 24 (Array.replicate 24 false) _ _
    clear hh
    (refine hk_take (i := 0) (v := ?_) rfl (by kernel_rfl) (by kernel_rfl) (by kernel_rfl) (fun _ _ _ h => h) (Or.inl ⟨by rfl, ?_⟩) hHeld ?_; rotate_left 1; (intro w_ hSw_; go_simp; with_reducible rfl); (try simp only [Act.put, List.setIfInBounds_toArray, List.set_cons_zero, List.set_cons_succ])); (refine hk_take (i := 1) (v := ?_) rfl (by kernel_rfl) (by kernel_rfl) (by kernel_rfl) (fun _ _ _ h => h) (Or.inl ⟨by rfl, ?_⟩) hHeld ?_; rotate_left 1; (intro w_ hSw_; go_simp; with_reducible rfl); (try simp only [Act.put, List.setIfInBounds_toArray, List.set_cons_zero, List.set_cons_succ]))
    (refine hk_op (i := 2) rfl (by kernel_rfl) (fun K hK => ?_))
    refine hs_goes0 rfl (f := 18) rfl Try.func18 (by kernel_rfl) rfl (rwords_c (hl.out.below (below_step hw1.out hHeld.below)) (hRw.out.below hHeld.below) (r := true) (beq_self_eq_true _)) (by (try simp only [List.map_toArray, List.map_cons, List.map_nil]); first | done | rfl) ?_
    rintro e_ W2_ ⟨rfl, hb_⟩
    refine ⟨_, rfl, ?_⟩
    refine hK.out _ _ (hHeld.call hb_) (fun hHeld => ?_)
    clear hK K
    (try simp only [Act.put, List.setIfInBounds_toArray, List.set_cons_zero, List.set_cons_succ])
    (refine hk_take (i := 3) (v := ?_) rfl (by kernel_rfl) (by kernel_rfl) (by kernel_rfl) (fun _ _ _ h => h) (Or.inl ⟨by rfl, ?_⟩) hHeld ?_; rotate_left 1; (intro w_ hSw_; go_simp; with_reducible rfl); (try simp only [Act.put, List.setIfInBounds_toArray, List.set_cons_zero, List.set_cons_succ]))
    (refine hk_take (i := 4) rfl (by kernel_rfl) (by kernel_rfl) (by kernel_rfl) (fun _ _ _ h => h) (yl_whole rfl rfl (ty := 32) rfl (fun w_ h_ => (h_.below.block _ (blk_lt fS.out)).trans fS.out) (by kernel_rfl) (by kernel_rfl)) hHeld ?_; (try simp only [Act.put, List.setIfInBounds_toArray, List.set_cons_zero, List.set_cons_succ]))
    (refine hk_take (i := 5) rfl (by kernel_rfl) (by kernel_rfl) (by kernel_rfl) (fun _ _ _ h => h) (yl_whole rfl rfl (ty := 32) rfl (fun w_ h_ => (h_.below.block _ (blk_lt fW.out)).trans fW.out) (by kernel_rfl) (by kernel_rfl)) hHeld ?_; (try simp only [Act.put, List.setIfInBounds_toArray, List.set_cons_zero, List.set_cons_succ]))
    (refine hk_op (i := 6) rfl (by kernel_rfl) (fun K hK => ?_))
    refine hs_goes0W rfl (f := 10) rfl Try.func10 (by kernel_rfl) rfl (rsame6_c s { s with back := ⟨some ⟨gB, 0, none⟩, s.back.n, capB⟩, byt := ⟨some ⟨gC, 0, none⟩, s.byt.n, capC⟩, inp := ⟨some ⟨gD, 0, none⟩, s.inp.n, capD⟩, out := ⟨some ⟨gE, 0, none⟩, s.out.n, capE⟩ } t t _ ⟨h.out.below (below_step hw1.out hHeld.below)⟩ ⟨hRd.out.below hHeld.below⟩ (sameF_refl t)) (by (try simp only [List.map_toArray, List.map_cons, List.map_nil]); first | done | rfl) ?_
    rintro e_ W3_ ⟨rfl, hb2_⟩
    refine ⟨_, rfl, ?_⟩
    refine hK.out _ _ (hHeld.call hb2_) (fun hHeld => ?_)
    clear hK K
    (try simp only [Act.put, List.setIfInBounds_toArray, List.set_cons_zero, List.set_cons_succ])
    (refine hk_take (i := 7) (v := ?_) rfl (by kernel_rfl) (by kernel_rfl) (by kernel_rfl) (fun _ _ _ h => h) (Or.inl ⟨by rfl, ?_⟩) hHeld ?_; rotate_left 1; (intro w_ hSw_; go_simp; with_reducible rfl); (try simp only [Act.put, List.setIfInBounds_toArray, List.set_cons_zero, List.set_cons_succ])); (refine hk_take (i := 8) (v := ?_) rfl (by kernel_rfl) (by kernel_rfl) (by kernel_rfl) (fun _ _ _ h => h) (Or.inl ⟨by rfl, ?_⟩) hHeld ?_; rotate_left 1; (intro w_ hSw_; go_simp; with_reducible rfl); (try simp only [Act.put, List.setIfInBounds_toArray, List.set_cons_zero, List.set_cons_succ])); (refine hk_take (i := 9) (v := ?_) rfl (by kernel_rfl) (by kernel_rfl) (by kernel_rfl) (fun _ _ _ h => h) (Or.inl ⟨by rfl, ?_⟩) hHeld ?_; rotate_left 1; (intro w_ hSw_; go_simp; with_reducible rfl); (try simp only [Act.put, List.setIfInBounds_toArray, List.set_cons_zero, List.set_cons_succ]))
    (refine hk_take (i := 10) rfl (by kernel_rfl) (by kernel_rfl) (by kernel_rfl) (fun _ _ _ h => h) (yl_load rfl rfl rfl (fun w_ h_ => h_.heap (by repeat (first | exact .head _ | refine .tail _ ?_))) (by kernel_rfl) (g_out { s with out := ⟨some ⟨gF, 0, none⟩, s.out.n, capF⟩ })) hHeld ?_; (try simp only [Act.put, List.setIfInBounds_toArray, List.set_cons_zero, List.set_cons_succ]))
    (refine hk_take (i := 11) (v := ?_) rfl (by kernel_rfl) (by kernel_rfl) (by kernel_rfl) (fun _ _ _ h => h) (Or.inl ⟨by rfl, ?_⟩) hHeld ?_; rotate_left 1; (intro w_ hSw_; go_simp; with_reducible rfl); (try simp only [Act.put, List.setIfInBounds_toArray, List.set_cons_zero, List.set_cons_succ]))
    (refine hk_take (i := 12) rfl (by kernel_rfl) (by kernel_rfl) (by kernel_rfl) (fun _ _ _ h => h) (yl_load rfl rfl rfl (fun w_ h_ => (h_.below.block _ (blk_lt fS.out)).trans fS.out) (by kernel_rfl) (g_out s)) hHeld ?_; (try simp only [Act.put, List.setIfInBounds_toArray, List.set_cons_zero, List.set_cons_succ]))
    (refine hk_take (i := 13) (v := ?_) rfl (by kernel_rfl) (by kernel_rfl) (by kernel_rfl) (fun _ _ _ h => h) (Or.inl ⟨by rfl, ?_⟩) hHeld ?_; rotate_left 1; (intro w_ hSw_; go_simp; with_reducible rfl); (try simp only [Act.put, List.setIfInBounds_toArray, List.set_cons_zero, List.set_cons_succ])); (refine hk_take (i := 14) (v := ?_) rfl (by kernel_rfl) (by kernel_rfl) (by kernel_rfl) (fun _ _ _ h => h) (Or.inl ⟨by rfl, ?_⟩) hHeld ?_; rotate_left 1; (intro w_ hSw_; go_simp; with_reducible rfl); (try simp only [Act.put, List.setIfInBounds_toArray, List.set_cons_zero, List.set_cons_succ])); (refine hk_take (i := 15) (v := ?_) rfl (by kernel_rfl) (by kernel_rfl) (by kernel_rfl) (fun _ _ _ h => h) (Or.inl ⟨by rfl, ?_⟩) hHeld ?_; rotate_left 1; (intro w_ hSw_; go_simp; with_reducible rfl); (try simp only [Act.put, List.setIfInBounds_toArray, List.set_cons_zero, List.set_cons_succ])); (refine hk_take (i := 16) (v := ?_) rfl (by kernel_rfl) (by kernel_rfl) (by kernel_rfl) (fun _ _ _ h => h) (Or.inl ⟨by rfl, ?_⟩) hHeld ?_; rotate_left 1; (intro w_ hSw_; go_simp; with_reducible rfl); (try simp only [Act.put, List.setIfInBounds_toArray, List.set_cons_zero, List.set_cons_succ]))
    (refine hk_take (i := 17) rfl (by kernel_rfl) (by kernel_rfl) (by kernel_rfl) (fun _ _ _ h => h) (yl_load rfl rfl rfl (fun w_ h_ => (h_.below.block _ (blk_lt fS.out)).trans fS.out) (by kernel_rfl) (g_out s)) hHeld ?_; (try simp only [Act.put, List.setIfInBounds_toArray, List.set_cons_zero, List.set_cons_succ]))
    (refine hk_take (i := 18) (v := ?_) rfl (by kernel_rfl) (by kernel_rfl) (by kernel_rfl) (fun _ _ _ h => h) (Or.inl ⟨by rfl, ?_⟩) hHeld ?_; rotate_left 1; (intro w_ hSw_; go_simp; with_reducible rfl); (try simp only [Act.put, List.setIfInBounds_toArray, List.set_cons_zero, List.set_cons_succ])); (refine hk_take (i := 19) (v := ?_) rfl (by kernel_rfl) (by kernel_rfl) (by kernel_rfl) (fun _ _ _ h => h) (Or.inl ⟨by rfl, ?_⟩) hHeld ?_; rotate_left 1; (intro w_ hSw_; go_simp; with_reducible rfl); (try simp only [Act.put, List.setIfInBounds_toArray, List.set_cons_zero, List.set_cons_succ]))
    (refine hk_take (i := 20) rfl (by kernel_rfl) (by kernel_rfl) (by kernel_rfl) (fun _ _ _ h => h) (yl_load rfl rfl rfl (fun w_ h_ => h_.heap (by repeat (first | exact .head _ | refine .tail _ ?_))) (by kernel_rfl) hlast.out) hHeld ?_; (try simp only [Act.put, List.setIfInBounds_toArray, List.set_cons_zero, List.set_cons_succ]))
    (refine hk_take (i := 21) (v := ?_) rfl (by kernel_rfl) (by kernel_rfl) (by kernel_rfl) (fun _ _ _ h => h) (Or.inl ⟨by rfl, ?_⟩) hHeld ?_; rotate_left 1; (intro w_ hSw_; go_simp; with_reducible rfl); (try simp only [Act.put, List.setIfInBounds_toArray, List.set_cons_zero, List.set_cons_succ])); (refine hk_take (i := 22) (v := ?_) rfl (by kernel_rfl) (by kernel_rfl) (by kernel_rfl) (fun _ _ _ h => h) (Or.inl ⟨by rfl, ?_⟩) hHeld ?_; rotate_left 1; (intro w_ hSw_; go_simp; with_reducible rfl); (try simp only [Act.put, List.setIfInBounds_toArray, List.set_cons_zero, List.set_cons_succ])); (refine hk_take (i := 23) (v := ?_) rfl (by kernel_rfl) (by kernel_rfl) (by kernel_rfl) (fun _ _ _ h => h) (Or.inl ⟨by rfl, ?_⟩) hHeld ?_; rotate_left 1; (intro w_ hSw_; go_simp; with_reducible rfl); (try simp only [Act.put, List.setIfInBounds_toArray, List.set_cons_zero, List.set_cons_succ]))
    (refine wpAnyH_done (by kernel_rfl) ?_ _)
    go_wp2_with (first | ((with_reducible refine gate_guardG ?_); refine hp_guardLG rfl rfl ?_; (with_reducible first | refine go_tt ?_ | refine go_ff ?_ | refine go_tf ?_ | refine go_ft ?_); (try simp only [Act.put, List.setIfInBounds_toArray, List.set_cons_zero, List.set_cons_succ])))
    go_ret
    exact ⟨rfl, below_step hw1.out hHeld.below⟩
theorem keeps_c (A : Option Addr) (n c : Nat) (ws : List Int) (s : SV) (t : St) (w : World) (h : Rd w s t) (hl : RdS .u32 w A n c ws) (hws : ∀ x ∈ ws, U32 x) (hu : ∀ x ∈ t.inp, 0 ≤ x ∧ x ≤ 255) :
    Calls Try.prog 6 #[.slice A n c, .agg s.c] w fun e w' => e = .returned (.bool true) ∧ Below w.heap.size w w' := by
  cases hf : fewF t
  · exact keeps_few A n c s t w ⟨h⟩ ⟨hf⟩
  by_cases h5 : 500 < n
  · exact keeps_long A n c s t w ⟨h⟩ ⟨hf⟩ (by simp; omega) (by simpa using h5)
  · exact keeps_main A n c ws s t w ⟨h⟩ ⟨hl⟩ ⟨hws⟩ ⟨hu⟩ ⟨hf⟩ (by simp; omega) (by simpa using h5)
end Go.Proofs.Ytgaggfekgkedpaa.Cpu
end
section
/- The row of the law CpuKeeps: whatever its arguments, the call returns true, and each argument reads behind it as it read before. No conditions. A template, printed by gen_row06.py. -/
namespace Go.Proofs.Ytgaggfekgkedpaa.cpuKeeps
open Go.ChangeShapes Go.WideShapes Go.ChangeAt Go.RowKit Go.Proofs.Ytgaggfekgkedpaa.Q Go.Proofs.Ytgaggfekgkedpaa.Cpu Go.Proofs.Ytgaggfekgkedpaa.Hp Go.Proofs.YtgaggfekgkedpaaW.PrintWords
open Go.ChangeMaps (open_string shut_string)
set_option linter.unusedVariables false
theorem own : ownKnob Try.prog.godebug = none := by kernel_rfl
theorem laidOut : laidOutB Try.prog = true := by kernel_rfl
set_option maxRecDepth 100000 in
set_option maxHeartbeats 4000000 in
theorem lifted (os : Os) (started : os.Started) (H : Type) (enc : TypeId × Value → H) :
    ReturnsInHanded {} Try.checked os 6 .any (Rows.cpuKeepsSpec.pre6 enc Try.prog Try.f6 Rows.cpuKeepsRow.domain false) (Rows.cpuKeepsSpec.post enc Try.prog Try.f6 false true false false) := by
  refine returnsInHanded_of_change_sized (C := Try.checked) own started (by kernel_rfl) Try.func6
    (ChangeSpec.witness6 (enc := enc) (C := Try.checked) false ⟨#[], #[(.slice none 0 0), (.agg #[.int .i64 0, .int .u32 0, .int .u32 0, .int .u32 0, .int .u32 0, .int .u32 0, .int .u32 0, .int .u32 0, .int .u32 0, .int .u32 0, .int .u32 0, .int .u32 0, .int .u32 0, .int .u32 0, .int .u32 0, .int .u32 0, .int .u32 0, .slice none 0 0, .int .i64 0, .slice none 0 0, .slice none 0 0, .slice none 0 0, .bool false, .int .u32 0, .int .i64 0])], []⟩ 8 (by kernel_rfl) (by kernel_rfl) (by kernel_rfl) (by kernel_rfl)) ?_
  intro W base args ds gs before hval0 hW hcnd hsz0 _
  have hsz : (DataW.weightsEach Try.prog (Try.f6.params.toList ++ Rows.cpuKeepsSpec.plain.varTypes Try.prog) (ds ++ gs)).all (· ≤ reachBytes) = true := hsz0
  have hval : ∀ (j : Nat) t v, Try.f6.params[j]? = some t → args[j]? = some v → Value.okWide Try.prog W .any base t v := hval0
  have hW' := hW
  obtain ⟨p, q, hA0, hV, rfl, hfz, hnd⟩ := hW
  have hA : DataW.TrodAll enc Try.prog W 0 (fun _ => true) true Try.f6.params.toList args.toList ds p := hA0
  rw [Try.params6] at hA hval hsz
  obtain ⟨v0, vs0, d0, ds0, p0, q0, hargs, rfl, rfl, h0, r0⟩ := trodAll_cons hA
  obtain ⟨v1, vs1, d1, ds1, p1, q1, rfl, rfl, rfl, h1, r1⟩ := trodAll_cons r0
  obtain ⟨rfl, rfl, rfl⟩ := trodAll_nil r1
  obtain rfl : args = #[v0, v1] := by cases args; simp_all
  obtain ⟨rfl, rfl⟩ := trodVars_none hV
  have k0 := h0
  have lt0 : ∀ x ∈ p0, x.block < W.heap.size := by obtain ⟨m, hm⟩ := k0; exact DataW.trod_lt m _ _ _ hm
  obtain ⟨a0, len0, cap0, rfl⟩ := okWide_slice Try.underlying22 (hval 0 22 v0 rfl rfl)
  obtain ⟨A0, n0, c0, l0, e0, hr0, wf0, hb0⟩ := rds_trod (B := 4) Try.underlying22 Try.underlying26 (by kernel_rfl) (by kernel_rfl) hsz (j := 0) (t := 22) rfl rfl h0
  simp only [Value.cells, List.cons.injEq, and_true, Value.slice.injEq] at e0
  obtain ⟨rfl, rfl, rfl⟩ := e0
  have k1 := h1
  have lt1 : ∀ x ∈ p1, x.block < W.heap.size := by obtain ⟨m, hm⟩ := k1; exact DataW.trod_lt m _ _ _ hm
  obtain ⟨cs1, rfl, sz1⟩ := okWide_struct Try.underlying32 (hval 1 32 v1 rfl rfl)
  obtain ⟨s1, t1, e1, hr1, wf1⟩ := st_trod hsz (j := 1) rfl rfl h1
  obtain rfl : cs1 = s1.c := by apply Array.ext'; exact e1
  clear hA0 hval0 hsz0 hsz
  refine (keeps_c _ _ _ l0 s1 t1 W hr1 hr0 (fun x hx => wf_u32 (wf0 x hx)) (fun x hx => wf1.inp x hx)).mono ?_
  rintro e W' ⟨rfl, bel⟩
  exact ⟨_, rfl, _, _, _, [], _, [], hW', trodAll_mk1 (shut_bool Try.underlying4 _), (trodAll_cons_mk (Below.trod laidOut (by kernel_rfl) (of_decide_eq_true (by kernel_rfl)) k0 bel lt0) (trodAll_cons_mk (Below.trod laidOut (by kernel_rfl) (of_decide_eq_true (by kernel_rfl)) k1 bel lt1) trodAll_mk0)), rfl, bel.frame _, fun h => by cases h⟩
theorem over : Rows.cpuKeepsRow.holds Try.pinned (OpenSpec.ofChange Rows.cpuKeepsSpec) :=
  OpenClaim.holds_of_wide 6 Try.f6 rfl rfl rfl rfl rfl rfl rfl ⟨rfl, rfl, rfl, rfl, rfl⟩ rfl rfl rfl rfl rfl (by kernel_rfl) Try.func6 (by kernel_rfl)
    (of_decide_eq_true (by kernel_rfl)) (by unfold Func.isWrapper; first | (rw [if_pos (by decide +kernel)]; kernel_rfl) | (rw [if_neg (by decide +kernel)]; exact ⟨rfl, rfl⟩))
    (fun os started H enc _ => lifted os started H enc)
theorem proved : Rows.CpuKeepsSaid := over
#print axioms proved
end Go.Proofs.Ytgaggfekgkedpaa.cpuKeeps
namespace Go.Proofs.Ytgaggfekgkedpaa
theorem cpuKeeps_holds : Rows.CpuKeepsSaid := cpuKeeps.proved
end Go.Proofs.Ytgaggfekgkedpaa
end