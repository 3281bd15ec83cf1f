/- Several texts in one, written by mergeall.py. Own work. -/
import Derived.Test.YtgaggfekgkedpaaMxC
import Derived.Test.YtgaggfekgkedpaaMxA
section
/- What has an effect: Out. Own work; a template. -/
namespace Go.Proofs.Ytgaggfekgkedpaa.Cpu
open Go.RowKit Go.Proofs.YtgaggfekgkedpaaW.PrintWords Go.Proofs.YtgaggfekgkedpaaW.PrintLast Go.Proofs.YtgaggfekgkedpaaW.PrintMore Go.Proofs.Ytgaggfekgkedpaa.Hp Go.Proofs.Ytgaggfekgkedpaa.Q
set_option linter.unusedVariables false
set_option linter.unusedSimpArgs false
attribute [local go_sem] add_any
theorem clipB_s (A : Option Addr) (n c : Nat) (w : World) (h : n ≤ c) (hm : c ≤ 9223372036854775807) : Calls Try.prog 46 #[.slice A n c] w fun e w' => e = .returned (.slice A n n) ∧ w = w' := by
  go_enter Try.func46, Try.ntmps46
  go_wp2
  go_ret
  exact ⟨rfl, rfl⟩
abbrev m8 (c : Int) : Int := c % 256
def St.outp (t : St) (i : IV) : St := { t with out := if t.out.length < 4096 then t.out ++ [m8 (rd t.R i.a)] else t.out, at_ := wrap64 (t.at_ + 1) }
set_option maxHeartbeats 8000000 in
set_option maxRecDepth 100000 in
theorem effect_out (s : SV) (t : St) (i : IV) (w : World) (h : Aside0 (Rd w s t)) (h0 : 0 ≤ i.a) (h1 : i.a < 16) (h2 : 0 ≤ i.b) (h3 : i.b < 16) (ho : i.op = 23) :
    Calls Try.prog 29 #[.agg s.c, .agg i.c] w (StIs w s t (t.outp i)) := by
  have H := Hp.nil w
  have hcut : Aside0 (bits_Cut.f i.imm 32 = some (i.imm % 4294967296)) := ⟨Code.cut32 _⟩
  have ih : i.c = #[.int .i64 23, .int .i64 i.a, .int .i64 i.b, .int .i64 i.c_, .int .i64 i.imm] := by unfold IV.c; rw [ho]
  rw [ih]
  clear ih ho
  obtain ⟨hn, hc, hm, hr⟩ := h.out.out
  by_cases hlt : s.out.n < 4096
  · have e : Aside0 (t.outp i = { t with out := t.out ++ [m8 (rd t.R i.a)], at_ := wrap64 (t.at_ + 1) }) := ⟨by unfold St.outp; rw [if_pos (by omega)]⟩
    have hlt' : ((s.out.n : Int) < 4096) := by omega
    replace hn := Aside0.mk hn
    clear hr hlt
    go_enter Try.func29, Try.ntmps29
    go_wp2_with (first | (refine hp_guard rfl ?_) | ((with_reducible refine gate_dst (N := 2) rfl ?_); refine hp_box H rfl rfl rfl ?_; intro gs W_ H_; clear H; have H := H_; clear H_) | ((with_reducible refine gate_dst (N := 3) rfl ?_); refine hp_box H rfl rfl rfl ?_; intro gi W_ H_; clear H; have H := H_; clear H_) | ((with_reducible refine gate_dst (N := 4) rfl ?_); refine hp_alloc H rfl rfl (fun w_ => by go_simp; rfl) ?_; intro gr W_ H_; clear H; have H := H_; clear H_) | (refine hp_load H rfl rfl rfl (by repeat (first | exact .head _ | refine .tail _ ?_)) (by kernel_rfl) (by first | exact i_of _ _ _ _ _ | exact g_out _) ?_) | ((with_reducible refine gate_draw ?_); have k0 := H.cell (by repeat (first | exact .head _ | refine .tail _ ?_)) 4 (i_of4 _ _ _ _ _); have k2 := H.cell (by repeat (first | exact .head _ | refine .tail _ ?_)) 2 (i_of2 _ _ _ _ _); have k4 := H.cell (by repeat (first | exact .head _ | refine .tail _ ?_)) _ (sv_reg s i.b h2 h3); go_quiet ((go_at_call 43; exact Calls.quiet_of ((bits_Cut.calls i.imm 32 _ _ hcut.out).mono fun _ _ hq => ⟨hq.1, hq.2.out⟩))); clear k0 k2 k4; have H := H.drewN nq))
    generalize IntKind.u32.wrap _ = wh
    generalize World.drewN _ _ = W0 at *
    have k21 := H.cell (.tail _ (.tail _ (.head _))) 21 (g_out s)
    have f21 := H.frozen (.tail _ (.tail _ (.head _))) 21
    have hne : gs ≠ W0.heap.size := Nat.ne_of_lt (blk_lt (H.heap (.tail _ (.tail _ (.head _)))))
    have kA : ∀ o_, (World.alloc W0 o_).cell? ⟨gs, 21, none⟩ = some (.slice s.out.a s.out.n s.out.c) := fun o_ => pw_cell_below (below_alloc (Below.refl _ _) o_) k21
    have k1 := H.cell (by repeat (first | exact .head _ | refine .tail _ ?_)) 1 (i_of1 _ _ _ _ _)
    have kR := H.cell (by repeat (first | exact .head _ | refine .tail _ ?_)) _ (sv_reg s i.a h0 h1)
    replace H := Aside0.mk H
    go_region_law (first | (refine hs_goes0 rfl (f := 46) rfl Try.func46 (by kernel_rfl) rfl (clipB_s s.out.a s.out.n s.out.c _ hc hm) (by (try simp only [List.map_toArray, List.map_cons, List.map_nil]); first | done | rfl) ?_; rintro e_ W2_ ⟨rfl, rfl⟩; refine ⟨_, rfl, ?_⟩) | (refine hs_grow ⟨H.out.drew.alloc _ _, trivial⟩ rfl rfl Try.underlying23 1 (by kernel_rfl) rfl (fun H_ => RdS.below h.out.out.clip H_.below) rfl (v := m8 (rd s.R i.a)) ((blk_cell (blk_new _ _) 0).trans rfl) (by have := hn.out; omega) (by omega) ?_; intro g_ cur_ cap_ W2_ ht_ hc_ hm_ hb_ H_; have c21 := H_.cell (.tail _ (.tail _ (.tail _ (.tail _ (.head _))))) 21 (g_out s); have d21 := H_.frozen (.tail _ (.tail _ (.tail _ (.tail _ (.head _))))) 21; replace ht_ := Aside0.mk ht_; replace H_ := Aside0.mk H_))
    all_goals
      have H := H_.out.set4 21 _ (sw_out s (some ⟨g_, 0, none⟩) (s.out.n + 1) cap_)
      clear H_ c21 d21 k21 f21 kA k1 kR hne hb_
      generalize World.setCell _ _ _ = W3 at *
      go_wp2_with (first | (first | (refine hp_whole H rfl (ty := 32) rfl rfl (by repeat (first | exact .head _ | refine .tail _ ?_)) (by kernel_rfl) (by kernel_rfl) ?_)) | (refine hp_load H rfl rfl rfl (by repeat (first | exact .head _ | refine .tail _ ?_)) (by kernel_rfl) (by first | exact g_at _) ?_) | ((first | (refine hp_store0 H rfl rfl rfl rfl rfl (by kernel_rfl) (by first | rfl | exact fit_.out) (by rfl) (by first | exact sv_at _ _ | exact sv_all _ rfl) ?_) | (refine hp_store1 H rfl rfl rfl rfl rfl (by kernel_rfl) (by first | rfl | exact fit_.out) (by rfl) (by first | exact sv_at _ _ | exact sv_all _ rfl) ?_) | (refine hp_store2 H rfl rfl rfl rfl rfl (by kernel_rfl) (by first | rfl | exact fit_.out) (by rfl) (by first | exact sv_at _ _ | exact sv_all _ rfl) ?_) | (refine hp_store3 H rfl rfl rfl rfl rfl (by kernel_rfl) (by first | rfl | exact fit_.out) (by rfl) (by first | exact sv_at _ _ | exact sv_all _ rfl) ?_) | (refine hp_store4 H rfl rfl rfl rfl rfl (by kernel_rfl) (by first | rfl | exact fit_.out) (by rfl) (by first | exact sv_at _ _ | exact sv_all _ rfl) ?_)); intro W_ H_; clear H; have H := H_; clear H_))
      rw [e.out]
      exact (bodyPost_ret (results_cell_row rfl _ _ _ 32 _ (0, 0) _ rfl (H.heap (by repeat (first | exact .head _ | refine .tail _ ?_))) Try.underlying32 rfl (by kernel_rfl)) rfl ⟨{ s with out := ⟨some ⟨g_, 0, none⟩, s.out.n + 1, cap_⟩, at_ := wrap64 (s.at_ + 1) }, rfl, fun W9_ hW9_ hd => ⟨by simp only [hd.at_], hd.R, hd.n16, hd.back, hd.wr, hd.byt, hd.inp, by rw [← hd.R]; exact H.rdsF hW9_ (by repeat (first | exact .head _ | refine .tail _ ?_)) ht_.out (by have := hn.out; simp; omega) hc_ hm_, hd.en, hd.code, hd.flt⟩, H.below⟩)
  · have e : Aside0 (t.outp i = { t with at_ := wrap64 (t.at_ + 1) }) := ⟨by unfold St.outp; rw [if_neg (by omega)]⟩
    have hlt' : ¬ ((s.out.n : Int) < 4096) := by omega
    clear hr hlt hn
    go_enter Try.func29, Try.ntmps29
    go_wp2_with (first | (refine hp_guard rfl ?_) | (refine hp_box H rfl rfl rfl ?_; intro g_ W_ H_; clear H; have H := H_; clear H_) | (refine hp_alloc H rfl rfl (fun w_ => by go_simp; rfl) ?_; intro g_ W_ H_; clear H; have H := H_; clear H_) | (first | (refine hp_whole H rfl (ty := 32) rfl rfl (by repeat (first | exact .head _ | refine .tail _ ?_)) (by kernel_rfl) (by kernel_rfl) ?_)) | (refine hp_load H rfl rfl rfl (by repeat (first | exact .head _ | refine .tail _ ?_)) (by kernel_rfl) (by first | exact i_of _ _ _ _ _ | exact g_out _ | exact g_at _) ?_) | ((first | (refine hp_store0 H rfl rfl rfl rfl rfl (by kernel_rfl) (by first | rfl | exact fit_.out) (by rfl) (by first | exact sv_at _ _ | exact sv_all _ rfl) ?_) | (refine hp_store1 H rfl rfl rfl rfl rfl (by kernel_rfl) (by first | rfl | exact fit_.out) (by rfl) (by first | exact sv_at _ _ | exact sv_all _ rfl) ?_) | (refine hp_store2 H rfl rfl rfl rfl rfl (by kernel_rfl) (by first | rfl | exact fit_.out) (by rfl) (by first | exact sv_at _ _ | exact sv_all _ rfl) ?_) | (refine hp_store3 H rfl rfl rfl rfl rfl (by kernel_rfl) (by first | rfl | exact fit_.out) (by rfl) (by first | exact sv_at _ _ | exact sv_all _ rfl) ?_) | (refine hp_store4 H rfl rfl rfl rfl rfl (by kernel_rfl) (by first | rfl | exact fit_.out) (by rfl) (by first | exact sv_at _ _ | exact sv_all _ rfl) ?_)); intro W_ H_; clear H; have H := H_; clear H_) | ((with_reducible refine gate_draw ?_); have k0 := H.cell (by repeat (first | exact .head _ | refine .tail _ ?_)) 4 (i_of4 _ _ _ _ _); have k2 := H.cell (by repeat (first | exact .head _ | refine .tail _ ?_)) 2 (i_of2 _ _ _ _ _); have k4 := H.cell (by repeat (first | exact .head _ | refine .tail _ ?_)) _ (sv_reg s i.b h2 h3); go_quiet ((go_at_call 43; exact Calls.quiet_of ((bits_Cut.calls i.imm 32 _ _ hcut.out).mono fun _ _ hq => ⟨hq.1, hq.2.out⟩))); clear k0 k2 k4; have H := H.drewN nq))
    rw [e.out]
    exact (bodyPost_ret (results_cell_row rfl _ _ _ 32 _ (0, 0) _ rfl (H.heap (by repeat (first | exact .head _ | refine .tail _ ?_))) Try.underlying32 rfl (by kernel_rfl)) rfl ⟨{ s with at_ := wrap64 (s.at_ + 1) }, rfl, fun W9_ hW9_ hd => ⟨by simp only [hd.at_], hd.R, hd.n16, hd.back, hd.wr, hd.byt, hd.inp, hd.out, hd.en, hd.code, hd.flt⟩, H.below⟩)
end Go.Proofs.Ytgaggfekgkedpaa.Cpu
end
