/- Several texts in one. Own work; written by merge.py. -/
import Derived.Test.YtgaggfekgkedpaaMxG
import Derived.Test.YtgaggfekgkedpaaMxF
import Derived.Test.YtgaggfekgkedpaaRows
import Derived.WalkKit
import Derived.ProofKit
import Derived.OpenShut
import Derived.ShutString
import Derived.ChangeOld
import Derived.Below
import Derived.SizedLaws
section
/- The reference's New; an image handed in. Own work; a template. -/
namespace Go.Proofs.Ytgaggfekgkedpaa.Cpu
open Go.RowKit Go.Proofs.YtgaggfekgkedpaaW.PrintWords Go.Proofs.YtgaggfekgkedpaaW.PrintLast Go.Proofs.YtgaggfekgkedpaaW.PrintMore Go.Proofs.Ytgaggfekgkedpaa.Hp Go.Proofs.Ytgaggfekgkedpaa.Q
set_option linter.unusedVariables false
set_option linter.unusedSimpArgs false
attribute [local go_sem] add_any
/-- An image's words. -/
structure IM where
  code : Sl
  entry : Int
  data : Sl
  write : Int
  more : Int
def IM.c (m : IM) : Array Value := #[.slice m.code.a m.code.n m.code.c, .int .i64 m.entry, .slice m.data.a m.data.n m.data.c, .int .i64 m.write, .int .i64 m.more]
theorem m_code (m : IM) : m.c[0]? = some (.slice m.code.a m.code.n m.code.c) := rfl
theorem m_entry (m : IM) : m.c[1]? = some (.int .i64 m.entry) := rfl
theorem m_data (m : IM) : m.c[2]? = some (.slice m.data.a m.data.n m.data.c) := rfl
theorem m_write (m : IM) : m.c[3]? = some (.int .i64 m.write) := rfl
theorem m_more (m : IM) : m.c[4]? = some (.int .i64 m.more) := rfl
theorem wrapN {i : Nat} (h : i < 9223372036854775807) : IntKind.i64.wrap ((i : Int) + 1) = ((i + 1 : Nat) : Int) := by rw [IntKind.wrap_i64]; omega
set_option maxHeartbeats 8000000 in
set_option maxRecDepth 100000 in
theorem rnew_c (mv : IM) (m : Nat) (hm : mv.more = (m : Int)) (A : Option Addr) (n c : Nat) (ld l : List Int) (w : World) (hd : Aside0 (RdS .u8 w mv.data.a mv.data.n mv.data.c ld)) (hi : Aside0 (RdS .u8 w A n c l)) (hb1 : Aside0 (mv.data.n + m ≤ 140737488355328)) (hb2 : Aside0 (n ≤ 140737488355328)) :
    Calls Try.prog 11 #[.agg mv.c, .slice A n c] w fun e w' => ∃ s : SV, e = .returned (.agg s.c) ∧ Rd w' s (newT mv.entry mv.write ld m l) ∧ Below w.heap.size w w' := by
  have H := Hp.nil w
  have gm4 : Aside0 (mv.c[4]? = some (.int .i64 (m : Int))) := ⟨by rw [m_more, hm]⟩
  clear hm
  go_enter Try.func11, Try.ntmps11
  go_wp2_with (first | ((with_reducible refine gate_guardG ?_); refine hp_guardLG rfl rfl ?_; (with_reducible first | refine go_tt ?_ | refine go_ff ?_ | refine go_tf ?_ | refine go_ft ?_); (try simp only [Act.put, List.setIfInBounds_toArray, List.set_cons_zero, List.set_cons_succ])) | ((with_reducible refine gate_dst (N := 2) rfl ?_); refine hp_box H rfl rfl rfl ?_; intro gm W_ H_; clear H; have H := H_; clear H_) | ((with_reducible refine gate_dst (N := 4) rfl ?_); refine hp_alloc H rfl rfl (fun w_ => by go_simp; rfl) ?_; intro gr W_ H_; clear H; have H := H_; clear H_) | ((with_reducible refine gate_litG ?_); (refine hp_litG H rfl rfl (by first | (go_simp; done) | (go_simp; rfl)) ?_; intro g_ W_ H_; clear H; have H := H_; clear H_); (try simp only [Act.put, List.setIfInBounds_toArray, List.set_cons_zero, List.set_cons_succ])) | ((with_reducible refine gate_loadG ?_); (refine hp_loadG H rfl rfl rfl (by repeat (first | exact .head _ | refine .tail _ ?_)) (by kernel_rfl) (by first | exact m_data _) ?_); (try simp only [Act.put, List.setIfInBounds_toArray, List.set_cons_zero, List.set_cons_succ])) | ((with_reducible refine gate_appG ?_); (refine hp_appG H rfl rfl Try.underlying23 (k := .u8) 1 (by kernel_rfl) (by decide) rfl (by first | exact List.Perm.refl _ | exact List.Perm.swap _ _ _) (lit_own _ _ _) rfl (hd.out.below H.below) (by have := hb1.out; omega) (by first | exact Nat.zero_add _ | rfl) (by first | exact List.nil_append _ | rfl) ?_; intro gD curD capD W_ hoD H_; replace hoD := Aside0.mk hoD; clear H; have H := H_; clear H_); (try simp only [Act.put, List.setIfInBounds_toArray, List.set_cons_zero, List.set_cons_succ])))
  have Hz : ∃ z : Array Value, z.size = 25 ∧ Hp w _ [(gD, curD, 5), (gr, z, 32), (gm, mv.c, 25)] := ⟨_, rfl, H⟩
  clear H
  obtain ⟨z0, hz0, H⟩ := Hz
  replace hz0 := Aside0.mk hz0
  go_loopg [5, 6] m (fun kq v5 v6 w' => ∃ (i g : Nat) (cur : Array Value) (cap : Nat), v5 = .slice (some ⟨g, 0, none⟩) (mv.data.n + i) cap ∧ v6 = .int .i64 (i : Int) ∧ Aside0 (i + kq = m) ∧ Aside0 (Own .u8 5 g cur (mv.data.n + i) cap (ld ++ List.replicate i 0)) ∧ Hp w w' [(g, cur, 5), (gr, z0, 32), (gm, mv.c, 25)])
  case atStart => exact ⟨0, gD, curD, capD, rfl, rfl, ⟨by omega⟩, ⟨by simpa using hoD.out⟩, H⟩
  case round =>
    clear H hoD
    obtain ⟨i, gX, curX, capX, rfl, rfl, hik, hoX, H⟩ := hrel
    by_cases hlt : i < m
    · have d0 : decide (i < m) = true := decide_eq_true hlt
      have hwn := Aside0.mk (w64n (i := i) (by have := hb1.out; omega))
      go_wp2_with (first | ((with_reducible refine gate_guardG ?_); refine hp_guardLG rfl rfl ?_; (with_reducible first | refine go_tt ?_ | refine go_ff ?_ | refine go_tf ?_ | refine go_ft ?_); (try simp only [Act.put, List.setIfInBounds_toArray, List.set_cons_zero, List.set_cons_succ])) | ((with_reducible refine gate_loadG ?_); (refine hp_loadG H rfl rfl rfl (by repeat (first | exact .head _ | refine .tail _ ?_)) (by kernel_rfl) (by first | exact gm4.out) ?_); (try simp only [Act.put, List.setIfInBounds_toArray, List.set_cons_zero, List.set_cons_succ])) | ((with_reducible refine gate_litG ?_); (refine hp_litG H rfl rfl (by first | (go_simp; done) | (go_simp; rfl)) ?_; intro g_ W_ H_; clear H; have H := H_; clear H_); (try simp only [Act.put, List.setIfInBounds_toArray, List.set_cons_zero, List.set_cons_succ])) | ((with_reducible refine gate_appG ?_); (refine hp_appG H rfl rfl Try.underlying23 (k := .u8) 1 (by kernel_rfl) (by decide) rfl (by first | exact List.Perm.refl _ | exact List.Perm.swap _ _ _) (hoX.out) rfl (H.rds (cur := #[.int .u8 0]) (l := [0]) (.head _) rfl rfl (by decide) (by decide)) (by have := hb1.out; omega) (by first | exact Nat.zero_add _ | rfl) (by first | exact List.nil_append _ | rfl) ?_; intro gY curY capY W_ hoY H_; replace hoY := Aside0.mk hoY; clear H; have H := H_; clear H_); (try simp only [Act.put, List.setIfInBounds_toArray, List.set_cons_zero, List.set_cons_succ])))
      go_roundg (gk - 1)
      case measure => have := hik.out; omega
      case rel => exact ⟨i + 1, gY, curY, capY, rfl, congrArg (Value.int .i64) hwn.out, ⟨by have := hik.out; omega⟩, ⟨by rw [List.replicate_succ', ← List.append_assoc]; exact hoY.out⟩, H.sub (.cons_cons _ (.cons _ (.refl _)))⟩
    · have d0 : decide (i < m) = false := decide_eq_false hlt
      have him : i = m := by have := hik.out; omega
      subst him
      go_wp2_with (first | ((with_reducible refine gate_guardG ?_); refine hp_guardLG rfl rfl ?_; (with_reducible first | refine go_tt ?_ | refine go_ff ?_ | refine go_tf ?_ | refine go_ft ?_); (try simp only [Act.put, List.setIfInBounds_toArray, List.set_cons_zero, List.set_cons_succ])) | ((with_reducible refine gate_loadG ?_); (refine hp_loadG H rfl rfl rfl (by repeat (first | exact .head _ | refine .tail _ ?_)) (by kernel_rfl) (by first | exact gm4.out) ?_); (try simp only [Act.put, List.setIfInBounds_toArray, List.set_cons_zero, List.set_cons_succ])))
      refine wp_region_held_drew (S := fun W' => ∃ z : Array Value, Hp w W' [(gX, curX, 5), (gr, z, 32), (gm, mv.c, 25)] ∧ z.size = 25) (by kernel_rfl) ⟨_, H.drew, hz0.out⟩ (fun hHeld => ?_)
      change wpAnyH _ _ _ _ _ 11 (Array.replicate 11 false) _ _
      clear H
      (refine hk_take (i := 0) (v := ?_) rfl (by kernel_rfl) (by kernel_rfl) (by kernel_rfl) (fun _ _ _ h => h) (Or.inl ⟨by rfl, ?_⟩) hHeld ?_; rotate_left 1; (intro w_ hSw_; go_simp; with_reducible rfl); (try simp only [Act.put, List.setIfInBounds_toArray, List.set_cons_zero, List.set_cons_succ]))
      (refine hk_take (i := 1) rfl (by kernel_rfl) (by kernel_rfl) (by kernel_rfl) (fun _ _ _ h => h) (yl_load rfl rfl rfl (fun w_ ⟨x_, H_, _⟩ => H_.heap (by repeat (first | exact .head _ | refine .tail _ ?_))) (by kernel_rfl) (m_entry mv)) hHeld ?_; (try simp only [Act.put, List.setIfInBounds_toArray, List.set_cons_zero, List.set_cons_succ]))
      (refine hk_take (i := 2) (v := ?_) rfl (by kernel_rfl) (by kernel_rfl) (by kernel_rfl) (fun _ _ _ h => h) (Or.inl ⟨by rfl, ?_⟩) hHeld ?_; rotate_left 1; (intro w_ hSw_; go_simp; with_reducible rfl); (try simp only [Act.put, List.setIfInBounds_toArray, List.set_cons_zero, List.set_cons_succ]))
      (refine hk_take (i := 3) rfl (by kernel_rfl) (by kernel_rfl) (by kernel_rfl) (fun _ _ _ h => h) (yl_load rfl rfl rfl (fun w_ ⟨x_, H_, _⟩ => H_.heap (by repeat (first | exact .head _ | refine .tail _ ?_))) (by kernel_rfl) (m_write mv)) hHeld ?_; (try simp only [Act.put, List.setIfInBounds_toArray, List.set_cons_zero, List.set_cons_succ]))
      (refine hk_take (i := 4) (v := ?_) rfl (by kernel_rfl) (by kernel_rfl) (by kernel_rfl) (fun _ _ _ h => h) (Or.inl ⟨by rfl, ?_⟩) hHeld ?_; rotate_left 1; (intro w_ hSw_; go_simp; with_reducible rfl); (try simp only [Act.put, List.setIfInBounds_toArray, List.set_cons_zero, List.set_cons_succ])); (refine hk_take (i := 5) (v := ?_) rfl (by kernel_rfl) (by kernel_rfl) (by kernel_rfl) (fun _ _ _ h => h) (Or.inl ⟨by rfl, ?_⟩) hHeld ?_; rotate_left 1; (intro w_ hSw_; go_simp; with_reducible rfl); (try simp only [Act.put, List.setIfInBounds_toArray, List.set_cons_zero, List.set_cons_succ])); (refine hk_take (i := 7) (v := ?_) rfl (by kernel_rfl) (by kernel_rfl) (by kernel_rfl) (fun _ _ _ h => h) (Or.inl ⟨by rfl, ?_⟩) hHeld ?_; rotate_left 1; (intro w_ hSw_; go_simp; with_reducible rfl); (try simp only [Act.put, List.setIfInBounds_toArray, List.set_cons_zero, List.set_cons_succ]))
      (refine hk_op (i := 6) rfl (by kernel_rfl) (fun K hK => ?_))
      obtain ⟨z_, H, hz_⟩ := hHeld
      refine hs_lit H rfl rfl (by first | (go_simp; done) | (go_simp; rfl)) ?_
      intro g0 W_ H_
      clear H
      have H := H_
      clear H_
      refine hK.out _ _ ⟨z_, H.sub (.cons _ (.refl _)), hz_⟩ (fun hHeld => ?_)
      clear hK K
      (try simp only [Act.put, List.setIfInBounds_toArray, List.set_cons_zero, List.set_cons_succ])
      (refine hk_op (i := 8) rfl (by kernel_rfl) (fun K hK => ?_))
      refine hs_app H rfl rfl Try.underlying23 (k := .u8) 1 (by kernel_rfl) (by decide) rfl (by first | exact List.Perm.refl _ | exact List.Perm.swap _ _ _) (lit_own _ _ _) rfl (hi.out.below H.below) (by have := hb2.out; omega) (Nat.zero_add _) (List.nil_append _) ?_
      intro gI curI capI W_ hoI H_
      clear H
      have H := H_
      clear H_
      refine hK.out _ _ ⟨z_, H.sub (.cons _ (.refl _)), hz_⟩ (fun hHeld => ?_)
      clear hK K
      (try simp only [Act.put, List.setIfInBounds_toArray, List.set_cons_zero, List.set_cons_succ])
      (refine hk_take (i := 9) (v := ?_) rfl (by kernel_rfl) (by kernel_rfl) (by kernel_rfl) (fun _ _ _ h => h) (Or.inl ⟨by rfl, ?_⟩) hHeld ?_; rotate_left 1; (intro w_ hSw_; go_simp; with_reducible rfl); (try simp only [Act.put, List.setIfInBounds_toArray, List.set_cons_zero, List.set_cons_succ]))
      (refine hk_op (i := 10) rfl (by kernel_rfl) (fun K hK => ?_))
      refine hs_store H rfl rfl rfl rfl (n := 2) rfl (v := .agg (SV.c ⟨mv.entry, List.replicate 16 0, ⟨none, 0, 0⟩, mv.write, ⟨some ⟨gX, 0, none⟩, mv.data.n + i, capX⟩, ⟨some ⟨gI, 0, none⟩, n, capI⟩, ⟨none, 0, 0⟩, false, 0, 0⟩)) rfl (by kernel_rfl) (by rw [hz_]; rfl) (by rfl) (sv_all _ hz_) rfl ?_
      intro W_ H_
      clear H
      have H := H_
      clear H_
      refine hK.out _ _ ⟨_, H.sub (.cons _ (.refl _)), rfl⟩ (fun hHeld => ?_)
      clear hK K
      (try simp only [Act.put, List.setIfInBounds_toArray, List.set_cons_zero, List.set_cons_succ])
      (refine wpAnyH_done (by kernel_rfl) ?_ _)
      go_wp2_with (first | ((with_reducible refine gate_guardG ?_); refine hp_guardLG rfl rfl ?_; (with_reducible first | refine go_tt ?_ | refine go_ff ?_ | refine go_tf ?_ | refine go_ft ?_); (try simp only [Act.put, List.setIfInBounds_toArray, List.set_cons_zero, List.set_cons_succ])))
      replace H : Hp w _ [(gI, curI, 5), (gX, curX, 5), (gr, SV.c ⟨mv.entry, List.replicate 16 0, ⟨none, 0, 0⟩, mv.write, ⟨some ⟨gX, 0, none⟩, mv.data.n + i, capX⟩, ⟨some ⟨gI, 0, none⟩, n, capI⟩, ⟨none, 0, 0⟩, false, 0, 0⟩, 32), (gm, mv.c, 25)] := H
      exact (bodyPost_ret (results_cell_row rfl _ _ _ 32 _ (0, 0) _ rfl (H.heap (by repeat (first | exact .head _ | refine .tail _ ?_))) Try.underlying32 rfl (by kernel_rfl)) rfl ⟨⟨mv.entry, List.replicate 16 0, ⟨none, 0, 0⟩, mv.write, ⟨some ⟨gX, 0, none⟩, mv.data.n + i, capX⟩, ⟨some ⟨gI, 0, none⟩, n, capI⟩, ⟨none, 0, 0⟩, false, 0, 0⟩, rfl, ⟨rfl, rfl, rfl, RdS.nil _ _, rfl, H.rdsO (g := gX) (by repeat (first | exact .head _ | refine .tail _ ?_)) hoX.out, H.rdsO (g := gI) (by repeat (first | exact .head _ | refine .tail _ ?_)) hoI, RdS.nil _ _, rfl, rfl, rfl⟩, H.below⟩)
end Go.Proofs.Ytgaggfekgkedpaa.Cpu
end
section
/- The law CpuNews: its contract. Own work; a template, printed by gen_news.py. -/
namespace Go.Proofs.Ytgaggfekgkedpaa.Cpu
open Go.RowKit Go.Proofs.YtgaggfekgkedpaaW.PrintWords Go.Proofs.YtgaggfekgkedpaaW.PrintLast Go.Proofs.YtgaggfekgkedpaaW.PrintMore Go.Proofs.Ytgaggfekgkedpaa.Hp Go.Proofs.Ytgaggfekgkedpaa.Q
set_option linter.unusedVariables false
set_option linter.unusedSimpArgs false
attribute [local go_sem] add_any
theorem sameF_refl (t : St) : sameF t t = true := by simp [sameF]
set_option maxHeartbeats 40000000 in
set_option maxRecDepth 100000 in
theorem news_c (mv : IM) (A : Option Addr) (n c : Nat) (ld l : List Int) (s : SV) (t : St) (w : World) (hd : RdS .u8 w mv.data.a mv.data.n mv.data.c ld) (hi : RdS .u8 w A n c l) (h : Rd w s t) :
    Calls Try.prog 3 #[.agg mv.c, .slice A n c, .agg s.c] w fun e w' => e = .returned (.bool true) ∧ Below w.heap.size w w' := by
  replace hd := Aside0.mk hd
  replace hi := Aside0.mk hi
  replace h := Aside0.mk h
  have H := Hp.nil w
  cases c0 : decide (mv.entry < 0)
  cases c1 : decide (mv.write < 0)
  cases c2 : decide (mv.more < 0)
  cases c3 : decide (mv.entry > 1048576)
  cases c4 : decide (mv.write > 1048576)
  cases c5 : decide (mv.more > 2000)
  cases c6 : decide ((mv.data.n : Int) > 2000)
  cases c7 : decide ((n : Int) > 500)
  cases hf : fewF t
  rotate_left
  all_goals (try have d6 : decide (2000 < mv.data.n) = true := by simp at c6 ⊢; omega)
  all_goals (try have d6 : decide (2000 < mv.data.n) = false := by simp at c6 ⊢; omega)
  all_goals (try have d7 : decide (500 < n) = true := by simp at c7 ⊢; omega)
  all_goals (try have d7 : decide (500 < n) = false := by simp at c7 ⊢; omega)
  all_goals (try replace hf := Aside0.mk hf)
  · have hw : mv.more = ((mv.more.toNat : Nat) : Int) ∧ mv.more.toNat ≤ 2000 := by simp at c2 c5; omega
    obtain ⟨m, hm⟩ : ∃ m : Nat, m = mv.more.toNat := ⟨_, rfl⟩
    rw [← hm] at hw
    clear hm
    replace hw := Aside0.mk hw
    have hb := Aside0.mk (few_b h.out hf.out)
    have hnd : Aside0 (mv.data.n ≤ 2000) := ⟨by simp at c6; omega⟩
    have hnn : Aside0 (n ≤ 500) := ⟨by simp at c7; omega⟩
    obtain ⟨⟨Ac, nc, cc⟩, entry, ⟨Ad, nd, cd⟩, write, more⟩ := mv
    obtain ⟨hw1_, hm2⟩ := hw.out
    clear hw
    replace hm2 := Aside0.mk hm2
    simp only at hw1_ hd hnd
    subst hw1_
    go_enter Try.func3, Try.ntmps3
    go_wp2_with (first | ((with_reducible refine gate_fnG ?_); refine hp_goesG H rfl (f := 9) rfl Try.func9 (by kernel_rfl) rfl (new_c Ac nc cc entry Ad nd cd write m A n c ld l _ ⟨hd.out.below H.below⟩ ⟨hi.out.below H.below⟩ (by have := hnd.out; have := hm2.out; omega) (by have := hnn.out; omega)) (by (try simp only [List.map_toArray, List.map_cons, List.map_nil]); first | done | rfl) ?_; rintro e_ W_ ⟨s1, rfl, hr1, hb_⟩; refine ⟨_, rfl, hb_, fun H_ => ?_⟩; have fS := Aside0.mk (H_.heap (g := gs) (cs := s.c) (t := 32) (by repeat (first | exact .head _ | refine .tail _ ?_))); have fM := Aside0.mk (H_.heap (g := gm) (cs := IM.c ⟨⟨Ac, nc, cc⟩, entry, ⟨Ad, nd, cd⟩, write, (m : Int)⟩) (t := 25) (by repeat (first | exact .head _ | refine .tail _ ?_))); have hR1 : Aside0 (∀ W9, Below W_.heap.size W_ W9 → Rd W9 s1 (newT entry write ld m l)) := ⟨fun W9 h9 => hr1 W9 (fun b _ h2 => h9.block b h2)⟩; have hw1 := Aside0.mk H_.below; clear H H_ hr1; rename World => Wb; have H := Hp.nil Wb; (try simp only [Act.put, List.setIfInBounds_toArray, List.set_cons_zero, List.set_cons_succ])) | ((with_reducible refine gate_dst (N := 7) rfl ?_); refine hp_alloc H rfl rfl (fun w_ => by go_simp; rfl) ?_; intro gt W_ H_; clear H; have H := H_; clear H_) | ((with_reducible refine gate_storeG ?_); ((first | (refine hp_store0G H rfl rfl rfl rfl rfl (by kernel_rfl) (by first | rfl | exact fit_.out) (by rfl) (by first | exact sv_all _ rfl) ?_) | (refine hp_store1G H rfl rfl rfl rfl rfl (by kernel_rfl) (by first | rfl | exact fit_.out) (by rfl) (by first | exact sv_all _ rfl) ?_)); intro W_ H_; clear H; have H := H_; clear H_); (try simp only [Act.put, List.setIfInBounds_toArray, List.set_cons_zero, List.set_cons_succ])) | ((with_reducible refine gate_guardG ?_); refine hp_guardLG rfl rfl ?_; (with_reducible first | refine go_tt ?_ | refine go_ff ?_ | refine go_tf ?_ | refine go_ft ?_); (try simp only [Act.put, List.setIfInBounds_toArray, List.set_cons_zero, List.set_cons_succ])) | ((with_reducible refine gate_dst (N := 3) rfl ?_); refine hp_box H rfl rfl rfl ?_; intro gm W_ H_; clear H; have H := H_; clear H_) | ((with_reducible refine gate_dst (N := 5) rfl ?_); refine hp_box H rfl rfl rfl ?_; intro gs W_ H_; clear H; have H := H_; clear H_) | ((with_reducible refine gate_loadG ?_); (refine hp_loadG H rfl rfl rfl (by repeat (first | exact .head _ | refine .tail _ ?_)) (by kernel_rfl) (by first | exact m_entry _ | exact m_write _ | exact m_more _ | exact m_data _) ?_); (try simp only [Act.put, List.setIfInBounds_toArray, List.set_cons_zero, List.set_cons_succ])) | ((with_reducible refine gate_fnG ?_); (refine hp_goesG H rfl (f := 7) rfl Try.func7 (by kernel_rfl) rfl (awake_c _) (by (try simp only [List.map_toArray, List.map_cons, List.map_nil]); first | done | rfl) ?_; rintro e_ W_ ⟨rfl, hb_⟩; refine ⟨_, rfl, hb_, fun H_ => ?_⟩; clear H; have H := H_; clear H_); (try simp only [Act.put, List.setIfInBounds_toArray, List.set_cons_zero, List.set_cons_succ])) | ((with_reducible refine gate_loadG ?_); (first | (refine hp_wholeG H rfl (ty := 32) rfl rfl (by repeat (first | exact .head _ | refine .tail _ ?_)) (by kernel_rfl) (by kernel_rfl) ?_) | (refine hp_wholeG H rfl (ty := 25) rfl rfl (by repeat (first | exact .head _ | refine .tail _ ?_)) (by kernel_rfl) (by kernel_rfl) ?_)); (try simp only [Act.put, List.setIfInBounds_toArray, List.set_cons_zero, List.set_cons_succ])) | ((with_reducible refine gate_fnG ?_); (refine hp_goesG H rfl (f := 8) rfl Try.func8 (by kernel_rfl) rfl (few_c s t _ ⟨h.out.below H.below⟩ hf.out) (by (try simp only [List.map_toArray, List.map_cons, List.map_nil]); first | done | rfl) ?_; rintro e_ W_ ⟨rfl, hb_⟩; refine ⟨_, rfl, hb_, fun H_ => ?_⟩; clear H; have H := H_; clear H_); (try simp only [Act.put, List.setIfInBounds_toArray, List.set_cons_zero, List.set_cons_succ])))
    obtain ⟨b, hbb⟩ : ∃ b, sameF (newT entry write ld m l) t = b := ⟨_, rfl⟩
    have hh := H.drew
    clear H
    cases b
    all_goals
      refine wp_region_held_drew (S := fun W' => Hp Wb W' [(gt, s1.c, 32)]) (by kernel_rfl) hh (fun hHeld => ?_)
      change wpAnyH _ _ _ _ _ 20 (Array.replicate 20 false) _ _
      clear hh
      (refine hk_take (i := 0) rfl (by kernel_rfl) (by kernel_rfl) (by kernel_rfl) (fun _ _ _ h => h) (yl_whole rfl rfl (ty := 32) rfl (fun w_ h_ => h_.heap (by repeat (first | exact .head _ | refine .tail _ ?_))) (by kernel_rfl) (by kernel_rfl)) hHeld ?_; (try simp only [Act.put, List.setIfInBounds_toArray, List.set_cons_zero, List.set_cons_succ]))
      (refine hk_take (i := 1) rfl (by kernel_rfl) (by kernel_rfl) (by kernel_rfl) (fun _ _ _ h => h) (yl_whole rfl rfl (ty := 25) rfl (fun w_ h_ => (h_.below.block _ (blk_lt fM.out)).trans fM.out) (by kernel_rfl) (by kernel_rfl)) hHeld ?_; (try simp only [Act.put, List.setIfInBounds_toArray, List.set_cons_zero, List.set_cons_succ]))
      (refine hk_take (i := 2) (v := ?_) rfl (by kernel_rfl) (by kernel_rfl) (by kernel_rfl) (fun _ _ _ h => h) (Or.inl ⟨by rfl, ?_⟩) hHeld ?_; rotate_left 1; (intro w_ hSw_; go_simp; with_reducible rfl); (try simp only [Act.put, List.setIfInBounds_toArray, List.set_cons_zero, List.set_cons_succ]))
      (refine hk_op (i := 3) rfl (by kernel_rfl) (fun K hK => ?_))
      refine hs_goes0W rfl (f := 11) rfl Try.func11 (by kernel_rfl) rfl (rnew_c ⟨⟨Ac, nc, cc⟩, entry, ⟨Ad, nd, cd⟩, write, (m : Int)⟩ m rfl A n c ld l _ ⟨hd.out.below (below_step hw1.out hHeld.below)⟩ ⟨hi.out.below (below_step hw1.out hHeld.below)⟩ ⟨by show nd + m ≤ _; have := hnd.out; have := hm2.out; omega⟩ ⟨by have := hnn.out; omega⟩) (by (try simp only [List.map_toArray, List.map_cons, List.map_nil]); first | done | rfl) ?_
      rintro e_ W_ ⟨s2, rfl, hr2, hb_⟩
      refine ⟨_, rfl, ?_⟩
      refine hK.out _ _ (hHeld.call hb_) (fun hHeld => ?_)
      clear hK K
      (try simp only [Act.put, List.setIfInBounds_toArray, List.set_cons_zero, List.set_cons_succ])
      (refine hk_op (i := 4) rfl (by kernel_rfl) (fun K hK => ?_))
      refine hs_goes0W rfl (f := 10) rfl Try.func10 (by kernel_rfl) rfl (rsame6_c s1 s2 (newT entry write ld m l) (newT entry write ld m l) _ ⟨hR1.out _ hHeld.below⟩ ⟨hr2⟩ (sameF_refl _)) (by (try simp only [List.map_toArray, List.map_cons, List.map_nil]); first | done | rfl) ?_
      rintro e_ W_ ⟨rfl, hb_⟩
      refine ⟨_, rfl, ?_⟩
      refine hK.out _ _ (hHeld.call hb_) (fun hHeld => ?_)
      clear hK K
      (try simp only [Act.put, List.setIfInBounds_toArray, List.set_cons_zero, List.set_cons_succ])
      (refine hk_take (i := 5) (v := ?_) rfl (by kernel_rfl) (by kernel_rfl) (by kernel_rfl) (fun _ _ _ h => h) (Or.inl ⟨by rfl, ?_⟩) hHeld ?_; rotate_left 1; (intro w_ hSw_; go_simp; with_reducible rfl); (try simp only [Act.put, List.setIfInBounds_toArray, List.set_cons_zero, List.set_cons_succ]))
      (refine hk_take (i := 6) rfl (by kernel_rfl) (by kernel_rfl) (by kernel_rfl) (fun _ _ _ h => h) (yl_whole rfl rfl (ty := 32) rfl (fun w_ h_ => h_.heap (by repeat (first | exact .head _ | refine .tail _ ?_))) (by kernel_rfl) (by kernel_rfl)) hHeld ?_; (try simp only [Act.put, List.setIfInBounds_toArray, List.set_cons_zero, List.set_cons_succ]))
      (refine hk_take (i := 7) rfl (by kernel_rfl) (by kernel_rfl) (by kernel_rfl) (fun _ _ _ h => h) (yl_whole rfl rfl (ty := 32) rfl (fun w_ h_ => (h_.below.block _ (blk_lt fS.out)).trans fS.out) (by kernel_rfl) (by kernel_rfl)) hHeld ?_; (try simp only [Act.put, List.setIfInBounds_toArray, List.set_cons_zero, List.set_cons_succ]))
      (refine hk_take (i := 9) rfl (by kernel_rfl) (by kernel_rfl) (by kernel_rfl) (fun _ _ _ h => h) (yl_whole rfl rfl (ty := 32) rfl (fun w_ h_ => h_.heap (by repeat (first | exact .head _ | refine .tail _ ?_))) (by kernel_rfl) (by kernel_rfl)) hHeld ?_; (try simp only [Act.put, List.setIfInBounds_toArray, List.set_cons_zero, List.set_cons_succ]))
      (refine hk_take (i := 10) rfl (by kernel_rfl) (by kernel_rfl) (by kernel_rfl) (fun _ _ _ h => h) (yl_whole rfl rfl (ty := 32) rfl (fun w_ h_ => (h_.below.block _ (blk_lt fS.out)).trans fS.out) (by kernel_rfl) (by kernel_rfl)) hHeld ?_; (try simp only [Act.put, List.setIfInBounds_toArray, List.set_cons_zero, List.set_cons_succ]))
      (refine hk_op (i := 8) rfl (by kernel_rfl) (fun K hK => ?_))
      refine hs_goes0W rfl (f := 12) rfl Try.func12 (by kernel_rfl) rfl (same_c s1 s (newT entry write ld m l) t _ ⟨hR1.out _ hHeld.below⟩ ⟨h.out.below (below_step hw1.out hHeld.below)⟩ hbb) (by (try simp only [List.map_toArray, List.map_cons, List.map_nil]); first | done | rfl) ?_
      rintro e_ W_ ⟨rfl, hb_⟩
      refine ⟨_, rfl, ?_⟩
      refine hK.out _ _ (hHeld.call hb_) (fun hHeld => ?_)
      clear hK K
      (try simp only [Act.put, List.setIfInBounds_toArray, List.set_cons_zero, List.set_cons_succ])
      (refine hk_op (i := 11) rfl (by kernel_rfl) (fun K hK => ?_))
      refine hs_goes0W rfl (f := 10) rfl Try.func10 (by kernel_rfl) rfl (rsame6_c s1 s (newT entry write ld m l) t _ ⟨hR1.out _ hHeld.below⟩ ⟨h.out.below (below_step hw1.out hHeld.below)⟩ hbb) (by (try simp only [List.map_toArray, List.map_cons, List.map_nil]); first | done | rfl) ?_
      rintro e_ W_ ⟨rfl, hb_⟩
      refine ⟨_, rfl, ?_⟩
      refine hK.out _ _ (hHeld.call hb_) (fun hHeld => ?_)
      clear hK K
      (try simp only [Act.put, List.setIfInBounds_toArray, List.set_cons_zero, List.set_cons_succ])
      (refine hk_take (i := 12) (v := ?_) rfl (by kernel_rfl) (by kernel_rfl) (by kernel_rfl) (fun _ _ _ h => h) (Or.inl ⟨by rfl, ?_⟩) hHeld ?_; rotate_left 1; (intro w_ hSw_; go_simp; with_reducible rfl); (try simp only [Act.put, List.setIfInBounds_toArray, List.set_cons_zero, List.set_cons_succ])); (refine hk_take (i := 13) (v := ?_) rfl (by kernel_rfl) (by kernel_rfl) (by kernel_rfl) (fun _ _ _ h => h) (Or.inl ⟨by rfl, ?_⟩) hHeld ?_; rotate_left 1; (intro w_ hSw_; go_simp; with_reducible rfl); (try simp only [Act.put, List.setIfInBounds_toArray, List.set_cons_zero, List.set_cons_succ])); (refine hk_take (i := 14) (v := ?_) rfl (by kernel_rfl) (by kernel_rfl) (by kernel_rfl) (fun _ _ _ h => h) (Or.inl ⟨by rfl, ?_⟩) hHeld ?_; rotate_left 1; (intro w_ hSw_; go_simp; with_reducible rfl); (try simp only [Act.put, List.setIfInBounds_toArray, List.set_cons_zero, List.set_cons_succ]))
      (refine hk_take (i := 15) rfl (by kernel_rfl) (by kernel_rfl) (by kernel_rfl) (fun _ _ _ h => h) (yl_whole rfl rfl (ty := 32) rfl (fun w_ h_ => (h_.below.block _ (blk_lt fS.out)).trans fS.out) (by kernel_rfl) (by kernel_rfl)) hHeld ?_; (try simp only [Act.put, List.setIfInBounds_toArray, List.set_cons_zero, List.set_cons_succ]))
      (refine hk_take (i := 16) rfl (by kernel_rfl) (by kernel_rfl) (by kernel_rfl) (fun _ _ _ h => h) (yl_whole rfl rfl (ty := 32) rfl (fun w_ h_ => (h_.below.block _ (blk_lt fS.out)).trans fS.out) (by kernel_rfl) (by kernel_rfl)) hHeld ?_; (try simp only [Act.put, List.setIfInBounds_toArray, List.set_cons_zero, List.set_cons_succ]))
      (refine hk_op (i := 17) rfl (by kernel_rfl) (fun K hK => ?_))
      refine hs_goes0W rfl (f := 12) rfl Try.func12 (by kernel_rfl) rfl (same_c s s t t _ ⟨h.out.below (below_step hw1.out hHeld.below)⟩ ⟨h.out.below (below_step hw1.out hHeld.below)⟩ (sameF_refl t)) (by (try simp only [List.map_toArray, List.map_cons, List.map_nil]); first | done | rfl) ?_
      rintro e_ W_ ⟨rfl, hb_⟩
      refine ⟨_, rfl, ?_⟩
      refine hK.out _ _ (hHeld.call hb_) (fun hHeld => ?_)
      clear hK K
      (try simp only [Act.put, List.setIfInBounds_toArray, List.set_cons_zero, List.set_cons_succ])
      (refine hk_take (i := 18) (v := ?_) rfl (by kernel_rfl) (by kernel_rfl) (by kernel_rfl) (fun _ _ _ h => h) (Or.inl ⟨by rfl, ?_⟩) hHeld ?_; rotate_left 1; (intro w_ hSw_; go_simp; with_reducible rfl); (try simp only [Act.put, List.setIfInBounds_toArray, List.set_cons_zero, List.set_cons_succ])); (refine hk_take (i := 19) (v := ?_) rfl (by kernel_rfl) (by kernel_rfl) (by kernel_rfl) (fun _ _ _ h => h) (Or.inl ⟨by rfl, ?_⟩) hHeld ?_; rotate_left 1; (intro w_ hSw_; go_simp; with_reducible rfl); (try simp only [Act.put, List.setIfInBounds_toArray, List.set_cons_zero, List.set_cons_succ]))
      (refine wpAnyH_done (by kernel_rfl) ?_ _)
      go_wp2_with (first | ((with_reducible refine gate_guardG ?_); refine hp_guardLG rfl rfl ?_; (with_reducible first | refine go_tt ?_ | refine go_ff ?_ | refine go_tf ?_ | refine go_ft ?_); (try simp only [Act.put, List.setIfInBounds_toArray, List.set_cons_zero, List.set_cons_succ])))
      go_ret
      exact ⟨rfl, below_step hw1.out hHeld.below⟩
  all_goals go_enter Try.func3, Try.ntmps3
  all_goals go_wp2_with (first | ((with_reducible refine gate_guardG ?_); refine hp_guardLG rfl rfl ?_; (with_reducible first | refine go_tt ?_ | refine go_ff ?_ | refine go_tf ?_ | refine go_ft ?_); (try simp only [Act.put, List.setIfInBounds_toArray, List.set_cons_zero, List.set_cons_succ])) | ((with_reducible refine gate_dst (N := 3) rfl ?_); refine hp_box H rfl rfl rfl ?_; intro gm W_ H_; clear H; have H := H_; clear H_) | ((with_reducible refine gate_dst (N := 5) rfl ?_); refine hp_box H rfl rfl rfl ?_; intro gs W_ H_; clear H; have H := H_; clear H_) | ((with_reducible refine gate_loadG ?_); (refine hp_loadG H rfl rfl rfl (by repeat (first | exact .head _ | refine .tail _ ?_)) (by kernel_rfl) (by first | exact m_entry _ | exact m_write _ | exact m_more _ | exact m_data _) ?_); (try simp only [Act.put, List.setIfInBounds_toArray, List.set_cons_zero, List.set_cons_succ])) | ((with_reducible refine gate_fnG ?_); (refine hp_goesG H rfl (f := 7) rfl Try.func7 (by kernel_rfl) rfl (awake_c _) (by (try simp only [List.map_toArray, List.map_cons, List.map_nil]); first | done | rfl) ?_; rintro e_ W_ ⟨rfl, hb_⟩; refine ⟨_, rfl, hb_, fun H_ => ?_⟩; clear H; have H := H_; clear H_); (try simp only [Act.put, List.setIfInBounds_toArray, List.set_cons_zero, List.set_cons_succ])) | ((with_reducible refine gate_loadG ?_); (first | (refine hp_wholeG H rfl (ty := 32) rfl rfl (by repeat (first | exact .head _ | refine .tail _ ?_)) (by kernel_rfl) (by kernel_rfl) ?_)); (try simp only [Act.put, List.setIfInBounds_toArray, List.set_cons_zero, List.set_cons_succ])) | ((with_reducible refine gate_fnG ?_); (refine hp_goesG H rfl (f := 8) rfl Try.func8 (by kernel_rfl) rfl (few_c s t _ ⟨h.out.below H.below⟩ hf.out) (by (try simp only [List.map_toArray, List.map_cons, List.map_nil]); first | done | rfl) ?_; rintro e_ W_ ⟨rfl, hb_⟩; refine ⟨_, rfl, hb_, fun H_ => ?_⟩; clear H; have H := H_; clear H_); (try simp only [Act.put, List.setIfInBounds_toArray, List.set_cons_zero, List.set_cons_succ])))
  all_goals go_ret
  all_goals exact ⟨rfl, H.below⟩
end Go.Proofs.Ytgaggfekgkedpaa.Cpu
end
section
/- An image handed in, opened. Own work; a template. -/
namespace Go.Proofs.Ytgaggfekgkedpaa.Cpu
open Go.RowKit Go.Proofs.YtgaggfekgkedpaaW.PrintWords Go.Proofs.YtgaggfekgkedpaaW.PrintLast Go.Proofs.YtgaggfekgkedpaaW.PrintMore Go.Proofs.Ytgaggfekgkedpaa.Hp Go.Proofs.Ytgaggfekgkedpaa.Q
set_option linter.unusedVariables false
set_option maxRecDepth 100000 in
set_option maxHeartbeats 4000000 in
theorem im_open {H : Type} {enc : TypeId × Value → H} {W : World} {base : Nat} {spare : Nat → Bool} {held : Bool} {fuel : Nat} {cs : List Value} {x : DataW H × List MemPlace} (h : DataW.trod enc Try.prog W base spare held fuel 25 cs = some x) (hw : ∀ n ∈ x.1.weights Try.prog 25, n ≤ 140737488351232) :
    ∃ (m : IM) (lc ld : List Int), cs = m.c.toList ∧ RdS .u32 W m.code.a m.code.n m.code.c lc ∧ RdS .u8 W m.data.a m.data.n m.data.c ld ∧ (∀ x ∈ lc, U32 x) ∧ (∀ x ∈ ld, U8 x) ∧ I64 m.entry ∧ I64 m.write ∧ I64 m.more := by
  obtain ⟨xs, n, rfl, rfl, hl, hxl, hf⟩ := DataW.trod_struct Try.underlying25 h
  have hl' : cs.length = 5 := hl.trans (by kernel_rfl)
  have hxl' : xs.length = 5 := hxl
  have c3 : Try.prog.cellsOf 3 = 1 := by kernel_rfl
  have c22 : Try.prog.cellsOf 22 = 1 := by kernel_rfl
  have c23 : Try.prog.cellsOf 23 = 1 := by kernel_rfl
  have c26 : Try.prog.cellsOf 26 = 1 := by kernel_rfl
  have c5 : Try.prog.cellsOf 5 = 1 := by kernel_rfl
  have b26 : Try.prog.bytesOf 26 = 4 := by kernel_rfl
  have b5 : Try.prog.bytesOf 5 = 1 := by kernel_rfl
  match xs, hxl' with
  | [x0, x1, x2, x3, x4], _ =>
    simp only [DataW.weights, Try.underlying25] at hw
    have hwe : ∀ (j : Nat) (ty : TypeId) (d : DataW H), ([22, 3, 23, 3, 3] : List TypeId)[j]? = some ty → (([x0, x1, x2, x3, x4] : List (DataW H × List MemPlace)).map (fun z => z.1))[j]? = some d → ∀ m ∈ DataW.weights Try.prog ty d, m ≤ 140737488351232 := fun j ty d ht hd m hm => hw m (DataW.weights_mem_each ht hd m hm)
    match cs, hl' with
    | [v0, v1, v2, v3, v4], _ =>
      have f0 : DataW.trod enc Try.prog W base spare held n 22 [v0] = some x0 := fld hf 0 rfl rfl rfl (n := 1) c22 rfl rfl
      have f1 : DataW.trod enc Try.prog W base spare held n 3 [v1] = some x1 := fld hf 1 rfl rfl rfl (n := 1) c3 rfl rfl
      have f2 : DataW.trod enc Try.prog W base spare held n 23 [v2] = some x2 := fld hf 2 rfl rfl rfl (n := 1) c23 rfl rfl
      have f3 : DataW.trod enc Try.prog W base spare held n 3 [v3] = some x3 := fld hf 3 rfl rfl rfl (n := 1) c3 rfl rfl
      have f4 : DataW.trod enc Try.prog W base spare held n 3 [v4] = some x4 := fld hf 4 rfl rfl rfl (n := 1) c3 rfl rfl
      obtain ⟨Ac, nc, cc, lc, ec, hc, wc, zc⟩ := sl_open Try.underlying22 Try.underlying26 c26 b26 f0 (hwe 0 _ _ rfl rfl)
      obtain ⟨r1, rfl, w1⟩ := int_open Try.underlying3 f1
      obtain ⟨Ad, nd, cd, ld, ed, hd, wd, zd⟩ := sl_open Try.underlying23 Try.underlying5 c5 b5 f2 (hwe 2 _ _ rfl rfl)
      obtain ⟨r3, rfl, w3⟩ := int_open Try.underlying3 f3
      obtain ⟨r4, rfl, w4⟩ := int_open Try.underlying3 f4
      simp only [List.cons.injEq, and_true] at ec ed
      subst ec ed
      exact ⟨⟨⟨Ac, nc, cc⟩, r1, ⟨Ad, nd, cd⟩, r3, r4⟩, lc, ld, rfl, hc, hd, fun x hx => wf_u32 (wc x hx), fun x hx => wf_u8 (wd x hx), wf_i64 w1, wf_i64 w3, wf_i64 w4⟩
theorem im_trod {H : Type} {enc : TypeId × Value → H} {W : World} {base : Nat} {spare : Nat → Bool} {held : Bool} {v : Value} {d : DataW H} {ps : List MemPlace} {ts : List TypeId} {ds : List (DataW H)} {j : Nat}
    (hsz : (DataW.weightsEach Try.prog ts ds).all (· ≤ reachBytes) = true) (ht : ts[j]? = some 25) (hd : ds[j]? = some d) (hr : DataW.Trod enc Try.prog W base spare held 25 v d ps) : ∃ (m : IM) (lc ld : List Int), v.cells.toList = m.c.toList ∧ RdS .u32 W m.code.a m.code.n m.code.c lc ∧ RdS .u8 W m.data.a m.data.n m.data.c ld ∧ (∀ x ∈ lc, U32 x) ∧ (∀ x ∈ ld, U8 x) ∧ I64 m.entry ∧ I64 m.write ∧ I64 m.more := by
  obtain ⟨fuel, hf⟩ := hr
  exact im_open hf (fun n hn => of_decide_eq_true (List.all_eq_true.1 hsz n (DataW.weights_mem_each ht hd n hn)))
end Go.Proofs.Ytgaggfekgkedpaa.Cpu
end
section
/- The row of the law CpuNews: whatever its arguments, the call returns true, and each argument reads behind it as it read before. No conditions. A template, printed by gen_row06.py. -/
namespace Go.Proofs.Ytgaggfekgkedpaa.cpuNews
open Go.ChangeShapes Go.WideShapes Go.ChangeAt Go.RowKit Go.Proofs.Ytgaggfekgkedpaa.Q Go.Proofs.Ytgaggfekgkedpaa.Cpu Go.Proofs.Ytgaggfekgkedpaa.Hp Go.Proofs.YtgaggfekgkedpaaW.PrintWords
open Go.ChangeMaps (open_string shut_string)
set_option linter.unusedVariables false
theorem own : ownKnob Try.prog.godebug = none := by kernel_rfl
theorem laidOut : laidOutB Try.prog = true := by kernel_rfl
set_option maxRecDepth 100000 in
set_option maxHeartbeats 4000000 in
theorem lifted (os : Os) (started : os.Started) (H : Type) (enc : TypeId × Value → H) :
    ReturnsInHanded {} Try.checked os 3 .any (Rows.cpuNewsSpec.pre6 enc Try.prog Try.f3 Rows.cpuNewsRow.domain false) (Rows.cpuNewsSpec.post enc Try.prog Try.f3 false true false false) := by
  refine returnsInHanded_of_change_sized (C := Try.checked) own started (by kernel_rfl) Try.func3
    (ChangeSpec.witness6 (enc := enc) (C := Try.checked) false ⟨#[], #[(.agg #[.slice none 0 0, .int .i64 0, .slice none 0 0, .int .i64 0, .int .i64 0]), (.slice none 0 0), (.agg #[.int .i64 0, .int .u32 0, .int .u32 0, .int .u32 0, .int .u32 0, .int .u32 0, .int .u32 0, .int .u32 0, .int .u32 0, .int .u32 0, .int .u32 0, .int .u32 0, .int .u32 0, .int .u32 0, .int .u32 0, .int .u32 0, .int .u32 0, .slice none 0 0, .int .i64 0, .slice none 0 0, .slice none 0 0, .slice none 0 0, .bool false, .int .u32 0, .int .i64 0])], []⟩ 8 (by kernel_rfl) (by kernel_rfl) (by kernel_rfl) (by kernel_rfl)) ?_
  intro W base args ds gs before hval0 hW hcnd hsz0 _
  have hsz : (DataW.weightsEach Try.prog (Try.f3.params.toList ++ Rows.cpuNewsSpec.plain.varTypes Try.prog) (ds ++ gs)).all (· ≤ reachBytes) = true := hsz0
  have hval : ∀ (j : Nat) t v, Try.f3.params[j]? = some t → args[j]? = some v → Value.okWide Try.prog W .any base t v := hval0
  have hW' := hW
  obtain ⟨p, q, hA0, hV, rfl, hfz, hnd⟩ := hW
  have hA : DataW.TrodAll enc Try.prog W 0 (fun _ => true) true Try.f3.params.toList args.toList ds p := hA0
  rw [Try.params3] at hA hval hsz
  obtain ⟨v0, vs0, d0, ds0, p0, q0, hargs, rfl, rfl, h0, r0⟩ := trodAll_cons hA
  obtain ⟨v1, vs1, d1, ds1, p1, q1, rfl, rfl, rfl, h1, r1⟩ := trodAll_cons r0
  obtain ⟨v2, vs2, d2, ds2, p2, q2, rfl, rfl, rfl, h2, r2⟩ := trodAll_cons r1
  obtain ⟨rfl, rfl, rfl⟩ := trodAll_nil r2
  obtain rfl : args = #[v0, v1, v2] := by cases args; simp_all
  obtain ⟨rfl, rfl⟩ := trodVars_none hV
  have k0 := h0
  have lt0 : ∀ x ∈ p0, x.block < W.heap.size := by obtain ⟨m, hm⟩ := k0; exact DataW.trod_lt m _ _ _ hm
  obtain ⟨cs0, rfl, sz0⟩ := okWide_struct Try.underlying25 (hval 0 25 v0 rfl rfl)
  obtain ⟨m0, lc0, ld0, e0, hc0, hd0, _⟩ := im_trod hsz (j := 0) rfl rfl h0
  obtain rfl : cs0 = m0.c := by apply Array.ext'; exact e0
  have k1 := h1
  have lt1 : ∀ x ∈ p1, x.block < W.heap.size := by obtain ⟨m, hm⟩ := k1; exact DataW.trod_lt m _ _ _ hm
  obtain ⟨a1, len1, cap1, rfl⟩ := okWide_slice Try.underlying23 (hval 1 23 v1 rfl rfl)
  obtain ⟨A1, n1, c1, l1, e1, hr1, wf1, hb1⟩ := rds_trod (B := 1) Try.underlying23 Try.underlying5 (by kernel_rfl) (by kernel_rfl) hsz (j := 1) (t := 23) rfl rfl h1
  simp only [Value.cells, List.cons.injEq, and_true, Value.slice.injEq] at e1
  obtain ⟨rfl, rfl, rfl⟩ := e1
  have k2 := h2
  have lt2 : ∀ x ∈ p2, x.block < W.heap.size := by obtain ⟨m, hm⟩ := k2; exact DataW.trod_lt m _ _ _ hm
  obtain ⟨cs2, rfl, sz2⟩ := okWide_struct Try.underlying32 (hval 2 32 v2 rfl rfl)
  obtain ⟨s2, t2, e2, hr2, wf2⟩ := st_trod hsz (j := 2) rfl rfl h2
  obtain rfl : cs2 = s2.c := by apply Array.ext'; exact e2
  clear hA0 hval0 hsz0 hsz
  refine (news_c m0 _ _ _ ld0 l1 s2 t2 W hd0 hr1 hr2).mono ?_
  rintro e W' ⟨rfl, bel⟩
  exact ⟨_, rfl, _, _, _, [], _, [], hW', trodAll_mk1 (shut_bool Try.underlying4 _), (trodAll_cons_mk (Below.trod laidOut (by kernel_rfl) (of_decide_eq_true (by kernel_rfl)) k0 bel lt0) (trodAll_cons_mk (Below.trod laidOut (by kernel_rfl) (of_decide_eq_true (by kernel_rfl)) k1 bel lt1) (trodAll_cons_mk (Below.trod laidOut (by kernel_rfl) (of_decide_eq_true (by kernel_rfl)) k2 bel lt2) trodAll_mk0))), rfl, bel.frame _, fun h => by cases h⟩
theorem over : Rows.cpuNewsRow.holds Try.pinned (OpenSpec.ofChange Rows.cpuNewsSpec) :=
  OpenClaim.holds_of_wide 3 Try.f3 rfl rfl rfl rfl rfl rfl rfl ⟨rfl, rfl, rfl, rfl, rfl⟩ rfl rfl rfl rfl rfl (by kernel_rfl) Try.func3 (by kernel_rfl)
    (of_decide_eq_true (by kernel_rfl)) (by unfold Func.isWrapper; first | (rw [if_pos (by decide +kernel)]; kernel_rfl) | (rw [if_neg (by decide +kernel)]; exact ⟨rfl, rfl⟩))
    (fun os started H enc _ => lifted os started H enc)
theorem proved : Rows.CpuNewsSaid := over
#print axioms proved
end Go.Proofs.Ytgaggfekgkedpaa.cpuNews
namespace Go.Proofs.Ytgaggfekgkedpaa
theorem cpuNews_holds : Rows.CpuNewsSaid := cpuNews.proved
end Go.Proofs.Ytgaggfekgkedpaa
end