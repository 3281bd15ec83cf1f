/- Several texts in one, written by mergeall.py. Own work. -/
import Derived.Test.YtcagccodmmcnfaaMxC
import Derived.Test.YtcagccodmmcnfaaMxA
import Derived.Test.YtcagccodmmcnfaaMxB
import Derived.Test.YtcagccodmmcnfaaCode
import Derived.Test.YtcagccodmmcnfaaQG
import Derived.Test.YtcagccodmmcnfaaQ15
section
/- What has an effect: Save, Stb. Own work; a template. -/
namespace Go.Proofs.Ytcagccodmmcnfaa.Cpu
open Go.RowKit Go.Proofs.YtcagccodmmcnfaaW.PrintWords Go.Proofs.YtcagccodmmcnfaaW.PrintLast Go.Proofs.YtcagccodmmcnfaaW.PrintMore Go.Proofs.Ytcagccodmmcnfaa.Hp Go.Proofs.Ytcagccodmmcnfaa.Q
set_option linter.unusedVariables false
set_option linter.unusedSimpArgs false
attribute [local go_sem] add_any
theorem gate_region1 {P : Program} {Q : Exit → Act → World → Prop} {a : Act} {l : Array Oper} {w : World} (h : (Code.region 1 l true).wp P Q a w) : (Code.region 1 l true).wp P Q a w := h
set_option maxHeartbeats 8000000 in
set_option maxRecDepth 100000 in
theorem effect_save_yes (s : SV) (t : St) (i : IV) (w : World) (h : Aside0 (Rd w s t)) (h0 : 0 ≤ i.a) (h1 : i.a < 16) (h2 : 0 ≤ i.b) (h3 : i.b < 16) (hb : Aside0 (t.byt.length ≤ 1099511627776)) (wide : Bool) (ho : i.op = if wide = true then 12 else 14)
    (p : Nat) (hp : p ≤ 4294901759) (hw : whereF t i = 65536 + p) (ok : okF t.byt.length (65536 + p) wide = true) (hwr : t.wr ≤ p) :
    Calls Try.prog 49 #[.agg s.c, .agg i.c] w (StIs w s t { t with byt := saveL t.byt p (rd t.R i.a) wide, at_ := wrap64 (t.at_ + 1) }) := by
  have H := Hp.nil w
  have hcut : Aside0 (bits_Cut.f i.imm 32 = some (i.imm % 4294967296)) := ⟨Code.cut32 _⟩
  have hwh : Aside0 (IntKind.u32.wrap (rd s.R i.b + i.imm % 4294967296) = 65536 + (p : Int)) := ⟨by rw [← hw]; unfold whereF; rw [h.out.R]; rfl⟩
  have hR : Aside0 (s.R.length = 16) := ⟨by rw [h.out.R]; exact h.out.n16⟩
  have hlo : Aside0 (∀ W', Below w.heap.size w W' → Calls Try.prog 61 #[.agg #[.int .i64 s.wr, .slice s.byt.a s.byt.n s.byt.c], .int .u32 (65536 + (p : Int)), .int .u32 (rd s.R i.a), .bool wide] W' (SaveIs W' s.wr s.byt.n (saveL t.byt p (rd t.R i.a) wide))) := ⟨fun W' hW => by
    have := save_yes s.wr s.byt.a s.byt.n s.byt.c t.byt p (rd s.R i.a) wide W' ⟨h.out.byt.below hW⟩ hb hp ok (by rw [h.out.wr]; exact hwr)
    rw [← h.out.R]
    exact this⟩
  clear hw ok hwr hp
  have ih : i.c = #[.int .i64 (if wide = true then 12 else 14), .int .i64 i.a, .int .i64 i.b, .int .i64 i.c_, .int .i64 i.imm] := by unfold IV.c; rw [ho]
  rw [ih]
  clear ih ho
  cases wide <;> simp only [if_true, if_false, Bool.false_eq_true]
  all_goals
    go_enter Try.func49, Try.ntmps49
    go_wp2_with (first | (refine hp_guard rfl ?_) | ((with_reducible refine gate_dst (N := 2) rfl ?_); refine hp_box H rfl rfl rfl ?_; intro gs W_ H_; clear H; have H := H_; clear H_) | ((with_reducible refine gate_dst (N := 3) rfl ?_); refine hp_box H rfl rfl rfl ?_; intro gi W_ H_; clear H; have H := H_; clear H_) | ((with_reducible refine gate_dst (N := 4) rfl ?_); refine hp_alloc H rfl rfl (fun w_ => by go_simp; rfl) ?_; intro gr W_ H_; clear H; have H := H_; clear H_) | (refine hp_load H rfl rfl rfl (by repeat (first | exact .head _ | refine .tail _ ?_)) (by kernel_rfl) (by first | exact i_of _ _ _ _ _ | exact i_of1 _ _ _ _ _ | exact i_of4 _ _ _ _ _) ?_) | ((with_reducible refine gate_region1 ?_); have k0 := H.cell (by repeat (first | exact .head _ | refine .tail _ ?_)) 4 (i_of4 _ _ _ _ _); have k2 := H.cell (by repeat (first | exact .head _ | refine .tail _ ?_)) 2 (i_of2 _ _ _ _ _); have k4 := H.cell (by repeat (first | exact .head _ | refine .tail _ ?_)) _ (sv_reg s i.b h2 h3); go_quiet ((go_at_call 59; exact Calls.quiet_of ((bits_Cut.calls i.imm 32 _ _ hcut.out).mono fun _ _ hq => ⟨hq.1, hq.2.out⟩))); clear k0 k2 k4; rw [hwh.out]; have H := H.drewN nq))
    generalize World.drewN _ _ = W0 at *
    have H := Aside0.mk H
    go_region_held3 (fun W' => (∃ L, Hp w W' L) ∧ W'.cell? ⟨gs, 18, none⟩ = some (.int .i64 s.wr) ∧ W'.cell? ⟨gs, 19, none⟩ = some (.slice s.byt.a s.byt.n s.byt.c) ∧ W'.cell? ⟨gi, 1, none⟩ = some (.int .i64 i.a) ∧ W'.cell? ⟨gs, 1 + i.a.toNat, none⟩ = some (.int .u32 (rd s.R i.a)))
      (first | exact ⟨⟨_, H.out.drew⟩, H.out.drew.cell (by repeat (first | exact .head _ | refine .tail _ ?_)) _ (g_wr s), H.out.drew.cell (by repeat (first | exact .head _ | refine .tail _ ?_)) _ (g_byt s), H.out.drew.cell (by repeat (first | exact .head _ | refine .tail _ ?_)) _ (i_of1 _ _ _ _ _), H.out.drew.cell (by repeat (first | exact .head _ | refine .tail _ ?_)) _ (sv_reg s i.a h0 h1)⟩ | assumption | exact keepE hb_ (by assumption) | exact keepE (below_alloc (Below.refl _ _) _) (by assumption) | exact keepE (W := W2_) (below_alloc (Below.refl _ _) _) ⟨⟨_, H2_.out⟩, (H2_.out).cell (by repeat (first | exact .head _ | refine .tail _ ?_)) _ (g_wr s), (H2_.out).cell (by repeat (first | exact .head _ | refine .tail _ ?_)) _ (g_byt s), (H2_.out).cell (by repeat (first | exact .head _ | refine .tail _ ?_)) _ (i_of1 _ _ _ _ _), (H2_.out).cell (by repeat (first | exact .head _ | refine .tail _ ?_)) _ (sv_reg s i.a h0 h1)⟩ | exact ⟨⟨_, (H2_.out.set1 0 _ rfl).set1 1 _ rfl⟩, ((H2_.out.set1 0 _ rfl).set1 1 _ rfl).cell (by repeat (first | exact .head _ | refine .tail _ ?_)) _ (g_wr s), ((H2_.out.set1 0 _ rfl).set1 1 _ rfl).cell (by repeat (first | exact .head _ | refine .tail _ ?_)) _ (g_byt s), ((H2_.out.set1 0 _ rfl).set1 1 _ rfl).cell (by repeat (first | exact .head _ | refine .tail _ ?_)) _ (i_of1 _ _ _ _ _), ((H2_.out.set1 0 _ rfl).set1 1 _ rfl).cell (by repeat (first | exact .head _ | refine .tail _ ?_)) _ (sv_reg s i.a h0 h1)⟩)
      (first | (refine hs_goes0 rfl (f := 61) rfl Try.func61 (by kernel_rfl) rfl (hlo.out _ H.out.drew.below) (by (try simp only [List.map_toArray, List.map_cons, List.map_nil]); first | done | rfl) ?_; rintro e_ W2_ ⟨g_, cur_, cap_, rfl, hg_, hh_, ht_, hn_, hc_, hm_, hb_⟩; refine ⟨_, rfl, ?_⟩; have H2_ := Aside0.mk (Hp.own H.out.drew hb_ hg_ hh_); replace ht_ := Aside0.mk ht_; replace hn_ := Aside0.mk hn_; clear hg_ hh_) | (refine hs_goes0 rfl (f := 61) rfl Try.func61 (by kernel_rfl) rfl (hlo.out _ (H.out.drew.alloc _ _).below) (by (try simp only [List.map_toArray, List.map_cons, List.map_nil]); first | done | rfl) ?_; rintro e_ W2_ ⟨g_, cur_, cap_, rfl, hg_, hh_, ht_, hn_, hc_, hm_, hb_⟩; refine ⟨_, rfl, ?_⟩; have H2_ := Aside0.mk (Hp.own (H.out.drew.alloc _ _) hb_ hg_ hh_); replace ht_ := Aside0.mk ht_; replace hn_ := Aside0.mk hn_; clear hg_ hh_; have n0 : W2_.cell? ⟨W0.heap.size, 0, none⟩ = some (.int .i64 0) := H2_.out.cell (.tail _ (.head _)) 0 rfl; have n1 : W2_.cell? ⟨W0.heap.size, 1, none⟩ = some (.slice none 0 0) := H2_.out.cell (.tail _ (.head _)) 1 rfl; have m0 : W2_.frozen? ⟨W0.heap.size, 0, none⟩ = false := H2_.out.frozen (.tail _ (.head _)) 0; have m1 : W2_.frozen? ⟨W0.heap.size, 1, none⟩ = false := H2_.out.frozen (.tail _ (.head _)) 1))
    all_goals
      first | (have n9 := n0; have H : Hp w (World.setCell (World.setCell W2_ ⟨W0.heap.size, 0, none⟩ (.int .i64 s.wr)) ⟨W0.heap.size, 1, none⟩ (.slice (some ⟨g_, 0, none⟩) s.byt.n cap_)) _ := (H2_.out.set1 0 (.int .i64 s.wr) (cs' := #[.int .i64 s.wr, .slice none 0 0]) rfl).set1 1 (.slice (some ⟨g_, 0, none⟩) s.byt.n cap_) (cs' := #[.int .i64 s.wr, .slice (some ⟨g_, 0, none⟩) s.byt.n cap_]) rfl; clear n9; generalize World.setCell (World.setCell W2_ _ _) _ _ = W3 at H ⊢) | (have H := H2_.out.alloc #[.int .i64 s.wr, .slice (some ⟨g_, 0, none⟩) s.byt.n cap_] 35; generalize World.alloc W2_ _ = W3 at H ⊢; generalize World.heap W2_ = hp_ at H ⊢)
      try clear n0
      try clear n1
      try clear m0
      try clear m1
      clear H2_ hb_
      go_wp2_with (first | (first | (refine hp_whole H rfl (ty := 37) rfl rfl (by repeat (first | exact .head _ | refine .tail _ ?_)) (by kernel_rfl) (by kernel_rfl) ?_) | (refine hp_whole H rfl (ty := 35) rfl rfl (by repeat (first | exact .head _ | refine .tail _ ?_)) (by kernel_rfl) (by kernel_rfl) ?_)) | (refine hp_load H rfl rfl rfl (by repeat (first | exact .head _ | refine .tail _ ?_)) (by kernel_rfl) (by first | exact g_at _) ?_) | ((first | (refine hp_store0 H rfl rfl rfl rfl rfl (by kernel_rfl) (by first | rfl | exact fit_.out) (by rfl) (by first | exact sv_mem _ _ _ _ _ | exact sv_at _ _ | exact sv_all _ rfl) ?_) | (refine hp_store1 H rfl rfl rfl rfl rfl (by kernel_rfl) (by first | rfl | exact fit_.out) (by rfl) (by first | exact sv_mem _ _ _ _ _ | exact sv_at _ _ | exact sv_all _ rfl) ?_) | (refine hp_store2 H rfl rfl rfl rfl rfl (by kernel_rfl) (by first | rfl | exact fit_.out) (by rfl) (by first | exact sv_mem _ _ _ _ _ | exact sv_at _ _ | exact sv_all _ rfl) ?_) | (refine hp_store3 H rfl rfl rfl rfl rfl (by kernel_rfl) (by first | rfl | exact fit_.out) (by rfl) (by first | exact sv_mem _ _ _ _ _ | exact sv_at _ _ | exact sv_all _ rfl) ?_) | (refine hp_store4 H rfl rfl rfl rfl rfl (by kernel_rfl) (by first | rfl | exact fit_.out) (by rfl) (by first | exact sv_mem _ _ _ _ _ | exact sv_at _ _ | exact sv_all _ rfl) ?_)); intro W_ H_; clear H; have H := H_; clear H_))
      exact (bodyPost_ret (results_cell_row rfl _ _ _ 37 _ (0, 0) _ rfl (H.heap (by repeat (first | exact .head _ | refine .tail _ ?_))) Try.underlying37 rfl (by kernel_rfl)) rfl ⟨{ s with byt := ⟨some ⟨g_, 0, none⟩, s.byt.n, cap_⟩, at_ := wrap64 (s.at_ + 1) }, rfl, fun W9_ hW9_ hd => ⟨by simp only [hd.at_], hd.R, hd.n16, hd.back, hd.wr, H.rdsF hW9_ (by repeat (first | exact .head _ | refine .tail _ ?_)) ht_.out hn_.out hc_ hm_, hd.inp, hd.out, hd.en, hd.code, hd.flt⟩, H.below⟩)
end Go.Proofs.Ytcagccodmmcnfaa.Cpu
end
section
/- Save, Stb, where the store says no. Own work; a template. -/
namespace Go.Proofs.Ytcagccodmmcnfaa.Cpu
open Go.RowKit Go.Proofs.YtcagccodmmcnfaaW.PrintWords Go.Proofs.YtcagccodmmcnfaaW.PrintLast Go.Proofs.YtcagccodmmcnfaaW.PrintMore Go.Proofs.Ytcagccodmmcnfaa.Hp Go.Proofs.Ytcagccodmmcnfaa.Q
set_option linter.unusedVariables false
set_option linter.unusedSimpArgs false
attribute [local go_sem] add_any
set_option maxHeartbeats 8000000 in
set_option maxRecDepth 100000 in
theorem effect_save_no (s : SV) (t : St) (i : IV) (w : World) (h : Aside0 (Rd w s t)) (h0 : 0 ≤ i.a) (h1 : i.a < 16) (h2 : 0 ≤ i.b) (h3 : i.b < 16) (hb : Aside0 (t.byt.length ≤ 1099511627776)) (wide : Bool) (ho : i.op = if wide = true then 12 else 14)
    (q : Int) (hw : whereF t i = q) (hq0 : 0 ≤ q) (hq1 : q ≤ 4294967295) (no : okF t.byt.length q wide = false ∨ q - 65536 < t.wr) :
    Calls Try.prog 49 #[.agg s.c, .agg i.c] w (StIs w s t (t.fault 4)) := by
  have H := Hp.nil w
  have hcut : Aside0 (bits_Cut.f i.imm 32 = some (i.imm % 4294967296)) := ⟨Code.cut32 _⟩
  have hwh : Aside0 (IntKind.u32.wrap (rd s.R i.b + i.imm % 4294967296) = q) := ⟨by rw [← hw]; unfold whereF; rw [h.out.R]; rfl⟩
  have hR : Aside0 (s.R.length = 16) := ⟨by rw [h.out.R]; exact h.out.n16⟩
  have hlo : Aside0 (∀ W', Below w.heap.size w W' → Calls Try.prog 61 #[.agg #[.int .i64 s.wr, .slice s.byt.a s.byt.n s.byt.c], .int .u32 q, .int .u32 (rd s.R i.a), .bool wide] W' fun e w' => e = .returned (.tuple #[.agg #[.int .i64 s.wr, .slice s.byt.a s.byt.n s.byt.c], .bool false]) ∧ Below W'.heap.size W' w') := ⟨fun W' hW =>
    save_no s.wr s.byt.a s.byt.n s.byt.c t.byt q (rd s.R i.a) wide W' ⟨h.out.byt.below hW⟩ hb hq0 hq1 (by rw [h.out.wr]; exact no)⟩
  clear hw no hq0 hq1
  have ih : i.c = #[.int .i64 (if wide = true then 12 else 14), .int .i64 i.a, .int .i64 i.b, .int .i64 i.c_, .int .i64 i.imm] := by unfold IV.c; rw [ho]
  rw [ih]
  clear ih ho
  cases wide <;> simp only [if_true, if_false, Bool.false_eq_true]
  all_goals
    go_enter Try.func49, Try.ntmps49
    go_wp2_with (first | (refine hp_guard rfl ?_) | ((with_reducible refine gate_dst (N := 2) rfl ?_); refine hp_box H rfl rfl rfl ?_; intro gs W_ H_; clear H; have H := H_; clear H_) | ((with_reducible refine gate_dst (N := 3) rfl ?_); refine hp_box H rfl rfl rfl ?_; intro gi W_ H_; clear H; have H := H_; clear H_) | ((with_reducible refine gate_dst (N := 4) rfl ?_); refine hp_alloc H rfl rfl (fun w_ => by go_simp; rfl) ?_; intro gr W_ H_; clear H; have H := H_; clear H_) | (refine hp_load H rfl rfl rfl (by repeat (first | exact .head _ | refine .tail _ ?_)) (by kernel_rfl) (by first | exact i_of _ _ _ _ _ | exact i_of1 _ _ _ _ _ | exact i_of4 _ _ _ _ _) ?_) | ((with_reducible refine gate_region1 ?_); have k0 := H.cell (by repeat (first | exact .head _ | refine .tail _ ?_)) 4 (i_of4 _ _ _ _ _); have k2 := H.cell (by repeat (first | exact .head _ | refine .tail _ ?_)) 2 (i_of2 _ _ _ _ _); have k4 := H.cell (by repeat (first | exact .head _ | refine .tail _ ?_)) _ (sv_reg s i.b h2 h3); go_quiet ((go_at_call 59; exact Calls.quiet_of ((bits_Cut.calls i.imm 32 _ _ hcut.out).mono fun _ _ hq => ⟨hq.1, hq.2.out⟩))); clear k0 k2 k4; rw [hwh.out]; have H := H.drewN nq))
    generalize World.drewN _ _ = W0 at *
    have H := Aside0.mk H
    go_region_held3 (fun W' => (∃ L, Hp w W' L) ∧ W'.cell? ⟨gs, 18, none⟩ = some (.int .i64 s.wr) ∧ W'.cell? ⟨gs, 19, none⟩ = some (.slice s.byt.a s.byt.n s.byt.c) ∧ W'.cell? ⟨gi, 1, none⟩ = some (.int .i64 i.a) ∧ W'.cell? ⟨gs, 1 + i.a.toNat, none⟩ = some (.int .u32 (rd s.R i.a)))
      (first | exact ⟨⟨_, H.out.drew⟩, H.out.drew.cell (by repeat (first | exact .head _ | refine .tail _ ?_)) _ (g_wr s), H.out.drew.cell (by repeat (first | exact .head _ | refine .tail _ ?_)) _ (g_byt s), H.out.drew.cell (by repeat (first | exact .head _ | refine .tail _ ?_)) _ (i_of1 _ _ _ _ _), H.out.drew.cell (by repeat (first | exact .head _ | refine .tail _ ?_)) _ (sv_reg s i.a h0 h1)⟩ | assumption | exact keepE hb_ (by assumption) | exact keepE (below_alloc (Below.refl _ _) _) (by assumption) | exact keepE (W := W2_) (below_alloc (Below.refl _ _) _) ⟨⟨_, H2_.out⟩, (H2_.out).cell (by repeat (first | exact .head _ | refine .tail _ ?_)) _ (g_wr s), (H2_.out).cell (by repeat (first | exact .head _ | refine .tail _ ?_)) _ (g_byt s), (H2_.out).cell (by repeat (first | exact .head _ | refine .tail _ ?_)) _ (i_of1 _ _ _ _ _), (H2_.out).cell (by repeat (first | exact .head _ | refine .tail _ ?_)) _ (sv_reg s i.a h0 h1)⟩ | exact ⟨⟨_, (H2_.out.set0 0 _ rfl).set0 1 _ rfl⟩, ((H2_.out.set0 0 _ rfl).set0 1 _ rfl).cell (by repeat (first | exact .head _ | refine .tail _ ?_)) _ (g_wr s), ((H2_.out.set0 0 _ rfl).set0 1 _ rfl).cell (by repeat (first | exact .head _ | refine .tail _ ?_)) _ (g_byt s), ((H2_.out.set0 0 _ rfl).set0 1 _ rfl).cell (by repeat (first | exact .head _ | refine .tail _ ?_)) _ (i_of1 _ _ _ _ _), ((H2_.out.set0 0 _ rfl).set0 1 _ rfl).cell (by repeat (first | exact .head _ | refine .tail _ ?_)) _ (sv_reg s i.a h0 h1)⟩)
      (first | (refine hs_goes0 rfl (f := 61) rfl Try.func61 (by kernel_rfl) rfl (hlo.out _ H.out.drew.below) (by (try simp only [List.map_toArray, List.map_cons, List.map_nil]); first | done | rfl) ?_; rintro e_ W2_ ⟨rfl, hb_⟩; refine ⟨_, rfl, ?_⟩; have H2_ := Aside0.mk (H.out.drew.call hb_)) | (refine hs_goes0 rfl (f := 61) rfl Try.func61 (by kernel_rfl) rfl (hlo.out _ (H.out.drew.alloc _ _).below) (by (try simp only [List.map_toArray, List.map_cons, List.map_nil]); first | done | rfl) ?_; rintro e_ W2_ ⟨rfl, hb_⟩; refine ⟨_, rfl, ?_⟩; have H2_ := Aside0.mk ((H.out.drew.alloc _ _).call hb_); have n0 : W2_.cell? ⟨W0.heap.size, 0, none⟩ = some (.int .i64 0) := H2_.out.cell (.head _) 0 rfl; have n1 : W2_.cell? ⟨W0.heap.size, 1, none⟩ = some (.slice none 0 0) := H2_.out.cell (.head _) 1 rfl; have m0 : W2_.frozen? ⟨W0.heap.size, 0, none⟩ = false := H2_.out.frozen (.head _) 0; have m1 : W2_.frozen? ⟨W0.heap.size, 1, none⟩ = false := H2_.out.frozen (.head _) 1))
    all_goals
      first | (have n9 := n0; have H : Hp w (World.setCell (World.setCell W2_ ⟨W0.heap.size, 0, none⟩ (.int .i64 s.wr)) ⟨W0.heap.size, 1, none⟩ (.slice s.byt.a s.byt.n s.byt.c)) _ := (H2_.out.set0 0 (.int .i64 s.wr) (cs' := #[.int .i64 s.wr, .slice none 0 0]) rfl).set0 1 (.slice s.byt.a s.byt.n s.byt.c) (cs' := #[.int .i64 s.wr, .slice s.byt.a s.byt.n s.byt.c]) rfl; clear n9; generalize World.setCell (World.setCell W2_ _ _) _ _ = W3 at H ⊢) | (have H := H2_.out.alloc #[.int .i64 s.wr, .slice s.byt.a s.byt.n s.byt.c] 35; generalize World.alloc W2_ _ = W3 at H ⊢; generalize World.heap W2_ = hp_ at H ⊢)
      try clear n0
      try clear n1
      try clear m0
      try clear m1
      clear H2_ hb_
      go_wp2_with (first | (first | (refine hp_whole H rfl (ty := 37) rfl rfl (by repeat (first | exact .head _ | refine .tail _ ?_)) (by kernel_rfl) (by kernel_rfl) ?_)) | (refine hp_goes H rfl (f := 44) rfl Try.func44 (by kernel_rfl) rfl (fault_c s _ _) (by (try simp only [List.map_toArray, List.map_cons, List.map_nil]); first | done | rfl) ?_; rintro e_ W_ ⟨rfl, hb_⟩; refine ⟨_, rfl, hb_, fun H_ => ?_⟩; clear H; have H := H_; clear H_) | ((first | (refine hp_store0 H rfl rfl rfl rfl rfl (by kernel_rfl) (by first | rfl | exact fit_.out) (by rfl) (by first | exact sv_all _ rfl) ?_) | (refine hp_store1 H rfl rfl rfl rfl rfl (by kernel_rfl) (by first | rfl | exact fit_.out) (by rfl) (by first | exact sv_all _ rfl) ?_) | (refine hp_store2 H rfl rfl rfl rfl rfl (by kernel_rfl) (by first | rfl | exact fit_.out) (by rfl) (by first | exact sv_all _ rfl) ?_)); intro W_ H_; clear H; have H := H_; clear H_))
      exact (bodyPost_ret (results_cell_row rfl _ _ _ 37 _ (0, 0) _ rfl (H.heap (by repeat (first | exact .head _ | refine .tail _ ?_))) Try.underlying37 rfl (by kernel_rfl)) rfl ⟨{ s with en := true, flt := 4 }, rfl, fun W9_ hW9_ hd => hd.fault 4, H.below⟩)
end Go.Proofs.Ytcagccodmmcnfaa.Cpu
end
section
/- A machine's step. Own work; a template. -/
namespace Go.Proofs.Ytcagccodmmcnfaa.Cpu
open Go.RowKit Go.Proofs.YtcagccodmmcnfaaW.PrintWords Go.Proofs.YtcagccodmmcnfaaW.PrintLast Go.Proofs.YtcagccodmmcnfaaW.PrintMore Go.Proofs.Ytcagccodmmcnfaa.Hp Go.Proofs.Ytcagccodmmcnfaa.Q
set_option linter.unusedVariables false
set_option linter.unusedSimpArgs false
attribute [local go_sem] add_any
set_option maxHeartbeats 8000000 in
set_option maxRecDepth 100000 in
theorem step_ended (s : SV) (t : St) (A : Option Addr) (n c : Nat) (w : World) (h : Aside0 (Rd w s t)) (he : s.en = true) :
    Calls Try.prog 29 #[.slice A n c, .agg s.c] w (StIs w s t t) := by
  have H := Hp.nil w
  have ge : s.c[22]? = some (.bool true) := by rw [g_en, he]
  clear he
  have ge := Aside0.mk ge
  go_enter Try.func29, Try.ntmps29
  go_wp2_with (first | (refine hp_guard rfl ?_) | (refine hp_box H rfl rfl rfl ?_; intro g_ W_ H_; clear H; have H := H_; clear H_) | (refine hp_alloc H rfl rfl (fun w_ => by go_simp; rfl) ?_; intro g_ W_ H_; clear H; have H := H_; clear H_) | (first | (refine hp_whole H rfl (ty := 37) rfl rfl (by repeat (first | exact .head _ | refine .tail _ ?_)) (by kernel_rfl) (by kernel_rfl) ?_)) | (refine hp_load H rfl rfl rfl (by repeat (first | exact .head _ | refine .tail _ ?_)) (by kernel_rfl) (by first | exact ge.out) ?_) | ((first | (refine hp_store0 H rfl rfl rfl rfl rfl (by kernel_rfl) (by first | rfl | exact fit_.out) (by rfl) (by first | exact sv_all _ rfl) ?_) | (refine hp_store1 H rfl rfl rfl rfl rfl (by kernel_rfl) (by first | rfl | exact fit_.out) (by rfl) (by first | exact sv_all _ rfl) ?_) | (refine hp_store2 H rfl rfl rfl rfl rfl (by kernel_rfl) (by first | rfl | exact fit_.out) (by rfl) (by first | exact sv_all _ rfl) ?_)); intro W_ H_; clear H; have H := H_; clear H_))
  exact (bodyPost_ret (results_cell_row rfl _ _ _ 37 _ (0, 0) _ rfl (H.heap (by repeat (first | exact .head _ | refine .tail _ ?_))) Try.underlying37 rfl (by kernel_rfl)) rfl ⟨s, rfl, fun W9_ hW9_ hd => hd, H.below⟩)
set_option maxHeartbeats 8000000 in
set_option maxRecDepth 100000 in
theorem step_out (s : SV) (t : St) (A : Option Addr) (n c : Nat) (w : World) (h : Aside0 (Rd w s t)) (he : s.en = false) (ho : s.at_ < 0 ∨ s.at_ ≥ (n : Int)) :
    Calls Try.prog 29 #[.slice A n c, .agg s.c] w (StIs w s t (t.fault 2)) := by
  have H := Hp.nil w
  have ge : s.c[22]? = some (.bool false) := by rw [g_en, he]
  clear he
  have ge := Aside0.mk ge
  by_cases hn : s.at_ < 0
  · clear ho
    go_enter Try.func29, Try.ntmps29
    go_wp2_with (first | (refine hp_guard rfl ?_) | (refine hp_box H rfl rfl rfl ?_; intro g_ W_ H_; clear H; have H := H_; clear H_) | (refine hp_alloc H rfl rfl (fun w_ => by go_simp; rfl) ?_; intro g_ W_ H_; clear H; have H := H_; clear H_) | (first | (refine hp_whole H rfl (ty := 37) rfl rfl (by repeat (first | exact .head _ | refine .tail _ ?_)) (by kernel_rfl) (by kernel_rfl) ?_)) | (refine hp_load H rfl rfl rfl (by repeat (first | exact .head _ | refine .tail _ ?_)) (by kernel_rfl) (by first | exact g_at _ | exact ge.out) ?_) | (refine hp_goes H rfl (f := 44) rfl Try.func44 (by kernel_rfl) rfl (fault_c s 2 _) (by (try simp only [List.map_toArray, List.map_cons, List.map_nil]); first | done | rfl) ?_; rintro e_ W_ ⟨rfl, hb_⟩; refine ⟨_, rfl, hb_, fun H_ => ?_⟩; clear H; have H := H_; clear H_) | ((first | (refine hp_store0 H rfl rfl rfl rfl rfl (by kernel_rfl) (by first | rfl | exact fit_.out) (by rfl) (by first | exact sv_all _ rfl) ?_) | (refine hp_store1 H rfl rfl rfl rfl rfl (by kernel_rfl) (by first | rfl | exact fit_.out) (by rfl) (by first | exact sv_all _ rfl) ?_) | (refine hp_store2 H rfl rfl rfl rfl rfl (by kernel_rfl) (by first | rfl | exact fit_.out) (by rfl) (by first | exact sv_all _ rfl) ?_)); intro W_ H_; clear H; have H := H_; clear H_))
    exact (bodyPost_ret (results_cell_row rfl _ _ _ 37 _ (0, 0) _ rfl (H.heap (by repeat (first | exact .head _ | refine .tail _ ?_))) Try.underlying37 rfl (by kernel_rfl)) rfl ⟨{ s with en := true, flt := 2 }, rfl, fun W9_ hW9_ hd => hd.fault 2, H.below⟩)
  · have hm : s.at_ ≥ (n : Int) := by omega
    clear ho
    go_enter Try.func29, Try.ntmps29
    go_wp2_with (first | (refine hp_guard rfl ?_) | (refine hp_box H rfl rfl rfl ?_; intro g_ W_ H_; clear H; have H := H_; clear H_) | (refine hp_alloc H rfl rfl (fun w_ => by go_simp; rfl) ?_; intro g_ W_ H_; clear H; have H := H_; clear H_) | (first | (refine hp_whole H rfl (ty := 37) rfl rfl (by repeat (first | exact .head _ | refine .tail _ ?_)) (by kernel_rfl) (by kernel_rfl) ?_)) | (refine hp_load H rfl rfl rfl (by repeat (first | exact .head _ | refine .tail _ ?_)) (by kernel_rfl) (by first | exact g_at _ | exact ge.out) ?_) | (refine hp_goes H rfl (f := 44) rfl Try.func44 (by kernel_rfl) rfl (fault_c s 2 _) (by (try simp only [List.map_toArray, List.map_cons, List.map_nil]); first | done | rfl) ?_; rintro e_ W_ ⟨rfl, hb_⟩; refine ⟨_, rfl, hb_, fun H_ => ?_⟩; clear H; have H := H_; clear H_) | ((first | (refine hp_store0 H rfl rfl rfl rfl rfl (by kernel_rfl) (by first | rfl | exact fit_.out) (by rfl) (by first | exact sv_all _ rfl) ?_) | (refine hp_store1 H rfl rfl rfl rfl rfl (by kernel_rfl) (by first | rfl | exact fit_.out) (by rfl) (by first | exact sv_all _ rfl) ?_) | (refine hp_store2 H rfl rfl rfl rfl rfl (by kernel_rfl) (by first | rfl | exact fit_.out) (by rfl) (by first | exact sv_all _ rfl) ?_)); intro W_ H_; clear H; have H := H_; clear H_))
    exact (bodyPost_ret (results_cell_row rfl _ _ _ 37 _ (0, 0) _ rfl (H.heap (by repeat (first | exact .head _ | refine .tail _ ?_))) Try.underlying37 rfl (by kernel_rfl)) rfl ⟨{ s with en := true, flt := 2 }, rfl, fun W9_ hW9_ hd => hd.fault 2, H.below⟩)
set_option maxHeartbeats 8000000 in
set_option maxRecDepth 100000 in
theorem step_bad (s : SV) (t : St) (A : Option Addr) (n c : Nat) (l : List Int) (w : World) (h : Aside0 (Rd w s t)) (he : s.en = false) (h0 : 0 ≤ s.at_) (h1 : ¬ s.at_ ≥ (n : Int)) (hl : Aside0 (RdS .u32 w A n c l)) (r1 r2 r3 r4 r5 err : Int) (hg : Aside0 (code_Get.f 9 (rd l s.at_) = some (r1, r2, r3, r4, r5, err))) (herr : ¬ err = 0) :
    Calls Try.prog 29 #[.slice A n c, .agg s.c] w (StIs w s t (t.fault 2)) := by
  have H := Hp.nil w
  have ge : s.c[22]? = some (.bool false) := by rw [g_en, he]
  clear he
  have ge := Aside0.mk ge
  have hn : ¬ s.at_ < 0 := by omega
  have hlt : s.at_ < (n : Int) := by omega
  obtain ⟨ad, rfl, hx⟩ := hl.out.at_ s.at_ h0 hlt
  have hx := Aside0.mk hx
  clear hl
  go_enter Try.func29, Try.ntmps29
  go_wp2_with (first | (refine hp_guard rfl ?_) | (refine hp_box H rfl rfl rfl ?_; intro g_ W_ H_; clear H; have H := H_; clear H_) | (refine hp_alloc H rfl rfl (fun w_ => by go_simp; rfl) ?_; intro g_ W_ H_; clear H; have H := H_; clear H_) | (first | (refine hp_whole H rfl (ty := 37) rfl rfl (by repeat (first | exact .head _ | refine .tail _ ?_)) (by kernel_rfl) (by kernel_rfl) ?_) | (refine hp_whole H rfl (ty := 55) rfl rfl (by repeat (first | exact .head _ | refine .tail _ ?_)) (by kernel_rfl) (by kernel_rfl) ?_)) | (refine hp_load H rfl rfl rfl (by repeat (first | exact .head _ | refine .tail _ ?_)) (by kernel_rfl) (by first | exact g_at _ | exact ge.out) ?_) | (refine hp_goes H rfl (f := 45) rfl Try.func45 (by kernel_rfl) rfl (code_Get.calls 9 _ _ _ _ _ _ _ _ hg.out) (by (try simp only [List.map_toArray, List.map_cons, List.map_nil]); first | done | rfl) ?_; rintro e_ W_ ⟨rfl, hb_⟩; refine ⟨_, rfl, hb_, fun H_ => ?_⟩; clear H; have H := H_; clear H_) | (refine hp_goes H rfl (f := 44) rfl Try.func44 (by kernel_rfl) rfl (fault_c s 2 _) (by (try simp only [List.map_toArray, List.map_cons, List.map_nil]); first | done | rfl) ?_; rintro e_ W_ ⟨rfl, hb_⟩; refine ⟨_, rfl, hb_, fun H_ => ?_⟩; clear H; have H := H_; clear H_) | ((first | (refine hp_store0 H rfl rfl rfl rfl rfl (by kernel_rfl) (by first | rfl | exact fit_.out) (by rfl) (by first | exact sv_all _ rfl | exact rfl) ?_) | (refine hp_store1 H rfl rfl rfl rfl rfl (by kernel_rfl) (by first | rfl | exact fit_.out) (by rfl) (by first | exact sv_all _ rfl | exact rfl) ?_) | (refine hp_store2 H rfl rfl rfl rfl rfl (by kernel_rfl) (by first | rfl | exact fit_.out) (by rfl) (by first | exact sv_all _ rfl | exact rfl) ?_)); intro W_ H_; clear H; have H := H_; clear H_) | ((with_reducible refine gate_dst (N := 27) rfl ?_); refine hp_cell rfl rfl rfl ((H.below.cell (World.block_lt_of_cell? w _ hx.out)).trans hx.out) (by kernel_rfl) ?_))
  exact (bodyPost_ret (results_cell_row rfl _ _ _ 37 _ (0, 0) _ rfl (H.heap (by repeat (first | exact .head _ | refine .tail _ ?_))) Try.underlying37 rfl (by kernel_rfl)) rfl ⟨{ s with en := true, flt := 2 }, rfl, fun W9_ hW9_ hd => hd.fault 2, H.below⟩)
end Go.Proofs.Ytcagccodmmcnfaa.Cpu
end
section
/- A machine's step, where the word says something. Own work; a template. -/
namespace Go.Proofs.Ytcagccodmmcnfaa.Cpu
open Go.RowKit Go.Proofs.YtcagccodmmcnfaaW.PrintWords Go.Proofs.YtcagccodmmcnfaaW.PrintLast Go.Proofs.YtcagccodmmcnfaaW.PrintMore Go.Proofs.Ytcagccodmmcnfaa.Hp Go.Proofs.Ytcagccodmmcnfaa.Q
set_option linter.unusedVariables false
set_option linter.unusedSimpArgs false
attribute [local go_sem] add_any
theorem i_of3 (a b c d e : Int) : (#[.int .i64 a, .int .i64 b, .int .i64 c, .int .i64 d, .int .i64 e] : Array Value)[3]? = some (.int .i64 d) := rfl
set_option maxHeartbeats 8000000 in
set_option maxRecDepth 100000 in
theorem step_nop (s : SV) (t : St) (A : Option Addr) (n c : Nat) (l : List Int) (w : World) (h : Aside0 (Rd w s t)) (he : s.en = false) (h0 : 0 ≤ s.at_) (h1 : ¬ s.at_ ≥ (n : Int)) (hl : Aside0 (RdS .u32 w A n c l)) (a b c_ imm : Int) (hg : Aside0 (code_Get.f 9 (rd l s.at_) = some (24, a, b, c_, imm, 0))) :
    Calls Try.prog 29 #[.slice A n c, .agg s.c] w (StIs w s t (t.put 0 0)) := by
  have H := Hp.nil w
  have ge : s.c[22]? = some (.bool false) := by rw [g_en, he]
  clear he
  have ge := Aside0.mk ge
  have hn : ¬ s.at_ < 0 := by omega
  have hlt : s.at_ < (n : Int) := by omega
  obtain ⟨ad, rfl, hx⟩ := hl.out.at_ s.at_ h0 hlt
  have hx := Aside0.mk hx
  clear hl
  go_enter Try.func29, Try.ntmps29
  go_wp2_with (first | (refine hp_guard rfl ?_) | (refine hp_box H rfl rfl rfl ?_; intro g_ W_ H_; clear H; have H := H_; clear H_) | (refine hp_alloc H rfl rfl (fun w_ => by go_simp; rfl) ?_; intro g_ W_ H_; clear H; have H := H_; clear H_) | (first | (refine hp_whole H rfl (ty := 37) rfl rfl (by repeat (first | exact .head _ | refine .tail _ ?_)) (by kernel_rfl) (by kernel_rfl) ?_) | (refine hp_whole H rfl (ty := 55) rfl rfl (by repeat (first | exact .head _ | refine .tail _ ?_)) (by kernel_rfl) (by kernel_rfl) ?_)) | (refine hp_load H rfl rfl rfl (by repeat (first | exact .head _ | refine .tail _ ?_)) (by kernel_rfl) (by first | exact i_of _ _ _ _ _ | exact g_at _ | exact ge.out) ?_) | (refine hp_goes H rfl (f := 45) rfl Try.func45 (by kernel_rfl) rfl (code_Get.calls 9 _ _ _ _ _ _ _ _ hg.out) (by (try simp only [List.map_toArray, List.map_cons, List.map_nil]); first | done | rfl) ?_; rintro e_ W_ ⟨rfl, hb_⟩; refine ⟨_, rfl, hb_, fun H_ => ?_⟩; clear H; have H := H_; clear H_) | (refine hp_goes H rfl (f := 46) rfl Try.func46 (by kernel_rfl) rfl (kind_k ⟨24, a, b, c_, imm⟩ 0 rfl _) (by (try simp only [List.map_toArray, List.map_cons, List.map_nil]); first | done | rfl) ?_; rintro e_ W_ ⟨rfl, hb_⟩; refine ⟨_, rfl, hb_, fun H_ => ?_⟩; clear H; have H := H_; clear H_) | (refine hp_goes H rfl (f := 47) rfl Try.func47 (by kernel_rfl) rfl (put_c s 0 0 _ (by decide) (by decide) ⟨by rw [h.out.R]; exact h.out.n16⟩) (by (try simp only [List.map_toArray, List.map_cons, List.map_nil]); first | done | rfl) ?_; rintro e_ W_ ⟨rfl, hb_⟩; refine ⟨_, rfl, hb_, fun H_ => ?_⟩; clear H; have H := H_; clear H_) | ((first | (refine hp_store0 H rfl rfl rfl rfl rfl (by kernel_rfl) (by first | rfl | exact fit_.out) (by rfl) (by first | exact sv_all _ rfl | exact rfl) ?_) | (refine hp_store1 H rfl rfl rfl rfl rfl (by kernel_rfl) (by first | rfl | exact fit_.out) (by rfl) (by first | exact sv_all _ rfl | exact rfl) ?_) | (refine hp_store2 H rfl rfl rfl rfl rfl (by kernel_rfl) (by first | rfl | exact fit_.out) (by rfl) (by first | exact sv_all _ rfl | exact rfl) ?_)); intro W_ H_; clear H; have H := H_; clear H_) | ((with_reducible refine gate_dst (N := 27) rfl ?_); refine hp_cell rfl rfl rfl ((H.below.cell (World.block_lt_of_cell? w _ hx.out)).trans hx.out) (by kernel_rfl) ?_))
  exact (bodyPost_ret (results_cell_row rfl _ _ _ 37 _ (0, 0) _ rfl (H.heap (by repeat (first | exact .head _ | refine .tail _ ?_))) Try.underlying37 rfl (by kernel_rfl)) rfl ⟨s.put 0 0, rfl, fun W9_ hW9_ hd => hd.put 0 0, H.below⟩)
set_option maxHeartbeats 8000000 in
set_option maxRecDepth 100000 in
theorem step_effect (s : SV) (t : St) (A : Option Addr) (n c : Nat) (l : List Int) (w : World) (h : Aside0 (Rd w s t)) (he : s.en = false) (h0 : 0 ≤ s.at_) (h1 : ¬ s.at_ ≥ (n : Int)) (hl : Aside0 (RdS .u32 w A n c l)) (i : IV) (hg : Aside0 (code_Get.f 9 (rd l s.at_) = some (i.op, i.a, i.b, i.c_, i.imm, 0)))
    (hk : Aside0 (kindF i.op = 1)) (T : St) (hT : Aside0 (∀ W', Below w.heap.size w W' → Calls Try.prog 49 #[.agg s.c, .agg i.c] W' (StIs W' s t T))) :
    Calls Try.prog 29 #[.slice A n c, .agg s.c] w (StIs w s t T) := by
  have H := Hp.nil w
  have ge : s.c[22]? = some (.bool false) := by rw [g_en, he]
  clear he
  have ge := Aside0.mk ge
  have hn : ¬ s.at_ < 0 := by omega
  have hlt : s.at_ < (n : Int) := by omega
  obtain ⟨ad, rfl, hx⟩ := hl.out.at_ s.at_ h0 hlt
  have hx := Aside0.mk hx
  clear hl
  obtain ⟨op, a, b, c_, imm⟩ := i
  go_enter Try.func29, Try.ntmps29
  go_wp2_with (first | (refine hp_guard rfl ?_) | (refine hp_box H rfl rfl rfl ?_; intro g_ W_ H_; clear H; have H := H_; clear H_) | ((with_reducible refine gate_dst (N := 4) rfl ?_); refine hp_alloc H rfl rfl (fun w_ => by go_simp; rfl) ?_; intro gr W_ H_; clear H; have H := H_; clear H_) | (refine hp_alloc H rfl rfl (fun w_ => by go_simp; rfl) ?_; intro g_ W_ H_; clear H; have H := H_; clear H_) | (first | (refine hp_whole H rfl (ty := 37) rfl rfl (by repeat (first | exact .head _ | refine .tail _ ?_)) (by kernel_rfl) (by kernel_rfl) ?_) | (refine hp_whole H rfl (ty := 55) rfl rfl (by repeat (first | exact .head _ | refine .tail _ ?_)) (by kernel_rfl) (by kernel_rfl) ?_)) | (refine hp_load H rfl rfl rfl (by repeat (first | exact .head _ | refine .tail _ ?_)) (by kernel_rfl) (by first | exact i_of _ _ _ _ _ | exact g_at _ | exact ge.out) ?_) | (refine hp_goes H rfl (f := 45) rfl Try.func45 (by kernel_rfl) rfl (code_Get.calls 9 _ _ _ _ _ _ _ _ hg.out) (by (try simp only [List.map_toArray, List.map_cons, List.map_nil]); first | done | rfl) ?_; rintro e_ W_ ⟨rfl, hb_⟩; refine ⟨_, rfl, hb_, fun H_ => ?_⟩; clear H; have H := H_; clear H_) | (refine hp_goes H rfl (f := 46) rfl Try.func46 (by kernel_rfl) rfl (kind_k ⟨op, a, b, c_, imm⟩ 1 hk.out _) (by (try simp only [List.map_toArray, List.map_cons, List.map_nil]); first | done | rfl) ?_; rintro e_ W_ ⟨rfl, hb_⟩; refine ⟨_, rfl, hb_, fun H_ => ?_⟩; clear H; have H := H_; clear H_) | (refine hp_goes H rfl (f := 49) rfl Try.func49 (by kernel_rfl) rfl (hT.out _ H.below) (by (try simp only [List.map_toArray, List.map_cons, List.map_nil]); first | done | rfl) ?_; have hlt_ : gr < _ := blk_lt (H.heap (by repeat (first | exact .head _ | refine .tail _ ?_))); have hsz_ := H.below.size; rintro e_ W_ ⟨s', rfl, hr', hb_⟩; replace hr' := Aside0.mk hr'; refine ⟨_, rfl, hb_, fun H_ => ?_⟩; clear H; have H := H_; clear H_) | (have h9 := hr'; clear h9; refine hp_storeF H rfl rfl rfl rfl (n := 1) rfl rfl (by kernel_rfl) rfl (by rfl) (sv_all _ rfl) rfl ?_; intro W_ H_ hf_ hz_; replace hf_ := Aside0.mk hf_; replace hz_ := Aside0.mk hz_; clear H; have H := H_; clear H_) | ((first | (refine hp_store0 H rfl rfl rfl rfl rfl (by kernel_rfl) (by first | rfl | exact fit_.out) (by rfl) (by first | exact sv_all _ rfl | exact rfl) ?_) | (refine hp_store1 H rfl rfl rfl rfl rfl (by kernel_rfl) (by first | rfl | exact fit_.out) (by rfl) (by first | exact sv_all _ rfl | exact rfl) ?_) | (refine hp_store2 H rfl rfl rfl rfl rfl (by kernel_rfl) (by first | rfl | exact fit_.out) (by rfl) (by first | exact sv_all _ rfl | exact rfl) ?_)); intro W_ H_; clear H; have H := H_; clear H_) | ((with_reducible refine gate_dst (N := 27) rfl ?_); refine hp_cell rfl rfl rfl ((H.below.cell (World.block_lt_of_cell? w _ hx.out)).trans hx.out) (by kernel_rfl) ?_))
  exact (bodyPost_ret (results_cell_row rfl _ _ _ 37 _ (0, 0) _ rfl (H.heap (by repeat (first | exact .head _ | refine .tail _ ?_))) Try.underlying37 rfl (by kernel_rfl)) rfl ⟨s', rfl, fun W9_ hW9_ hd => hr'.out W9_ (fun b h1 h2 => (hW9_ b (Nat.le_trans hsz_ h1) (by rw [hz_.out]; exact h2)).trans (hf_.out b (by omega))) hd, H.below⟩)
end Go.Proofs.Ytcagccodmmcnfaa.Cpu
end
section
/- A machine's step: what leads, what ends, what reckons. Own work; a template. -/
namespace Go.Proofs.Ytcagccodmmcnfaa.Cpu
open Go.RowKit Go.Proofs.YtcagccodmmcnfaaW.PrintWords Go.Proofs.YtcagccodmmcnfaaW.PrintLast Go.Proofs.YtcagccodmmcnfaaW.PrintMore Go.Proofs.Ytcagccodmmcnfaa.Hp Go.Proofs.Ytcagccodmmcnfaa.Q
set_option linter.unusedVariables false
set_option linter.unusedSimpArgs false
attribute [local go_sem] add_any
set_option maxHeartbeats 8000000 in
set_option maxRecDepth 100000 in
theorem step_leads (s : SV) (t : St) (A : Option Addr) (n c : Nat) (l : List Int) (w : World) (h : Aside0 (Rd w s t)) (he : s.en = false) (h0 : 0 ≤ s.at_) (h1 : ¬ s.at_ ≥ (n : Int)) (hl : Aside0 (RdS .u32 w A n c l)) (i : IV) (hg : Aside0 (code_Get.f 9 (rd l s.at_) = some (i.op, i.a, i.b, i.c_, i.imm, 0)))
    (k : Int) (hk : Aside0 (kindF i.op = k)) (hk0 : ¬ k = 0) (hk1 : ¬ k = 1) (hk5 : ¬ k = 5) (T : St) (hT : Aside0 (∀ W', Below w.heap.size w W' → Calls Try.prog 51 #[.agg s.c, .agg i.c] W' (StIs W' s t T))) :
    Calls Try.prog 29 #[.slice A n c, .agg s.c] w (StIs w s t T) := by
  have H := Hp.nil w
  have ge : s.c[22]? = some (.bool false) := by rw [g_en, he]
  clear he
  have ge := Aside0.mk ge
  have hn : ¬ s.at_ < 0 := by omega
  have hlt : s.at_ < (n : Int) := by omega
  obtain ⟨ad, rfl, hx⟩ := hl.out.at_ s.at_ h0 hlt
  have hx := Aside0.mk hx
  clear hl
  obtain ⟨op, a, b, c_, imm⟩ := i
  go_enter Try.func29, Try.ntmps29
  go_wp2_with (first | (refine hp_guard rfl ?_) | (refine hp_box H rfl rfl rfl ?_; intro g_ W_ H_; clear H; have H := H_; clear H_) | ((with_reducible refine gate_dst (N := 4) rfl ?_); refine hp_alloc H rfl rfl (fun w_ => by go_simp; rfl) ?_; intro gr W_ H_; clear H; have H := H_; clear H_) | (refine hp_alloc H rfl rfl (fun w_ => by go_simp; rfl) ?_; intro g_ W_ H_; clear H; have H := H_; clear H_) | (first | (refine hp_whole H rfl (ty := 37) rfl rfl (by repeat (first | exact .head _ | refine .tail _ ?_)) (by kernel_rfl) (by kernel_rfl) ?_) | (refine hp_whole H rfl (ty := 55) rfl rfl (by repeat (first | exact .head _ | refine .tail _ ?_)) (by kernel_rfl) (by kernel_rfl) ?_)) | (refine hp_load H rfl rfl rfl (by repeat (first | exact .head _ | refine .tail _ ?_)) (by kernel_rfl) (by first | exact i_of _ _ _ _ _ | exact g_at _ | exact ge.out) ?_) | (refine hp_goes H rfl (f := 45) rfl Try.func45 (by kernel_rfl) rfl (code_Get.calls 9 _ _ _ _ _ _ _ _ hg.out) (by (try simp only [List.map_toArray, List.map_cons, List.map_nil]); first | done | rfl) ?_; rintro e_ W_ ⟨rfl, hb_⟩; refine ⟨_, rfl, hb_, fun H_ => ?_⟩; clear H; have H := H_; clear H_) | (refine hp_goes H rfl (f := 46) rfl Try.func46 (by kernel_rfl) rfl (kind_k ⟨op, a, b, c_, imm⟩ k hk.out _) (by (try simp only [List.map_toArray, List.map_cons, List.map_nil]); first | done | rfl) ?_; rintro e_ W_ ⟨rfl, hb_⟩; refine ⟨_, rfl, hb_, fun H_ => ?_⟩; clear H; have H := H_; clear H_) | (refine hp_goes H rfl (f := 51) rfl Try.func51 (by kernel_rfl) rfl (hT.out _ H.below) (by (try simp only [List.map_toArray, List.map_cons, List.map_nil]); first | done | rfl) ?_; have hlt_ : gr < _ := blk_lt (H.heap (by repeat (first | exact .head _ | refine .tail _ ?_))); have hsz_ := H.below.size; rintro e_ W_ ⟨s', rfl, hr', hb_⟩; replace hr' := Aside0.mk hr'; refine ⟨_, rfl, hb_, fun H_ => ?_⟩; clear H; have H := H_; clear H_) | (have h9 := hr'; clear h9; refine hp_storeF H rfl rfl rfl rfl (n := 1) rfl rfl (by kernel_rfl) rfl (by rfl) (sv_all _ rfl) rfl ?_; intro W_ H_ hf_ hz_; replace hf_ := Aside0.mk hf_; replace hz_ := Aside0.mk hz_; clear H; have H := H_; clear H_) | ((first | (refine hp_store0 H rfl rfl rfl rfl rfl (by kernel_rfl) (by first | rfl | exact fit_.out) (by rfl) (by first | exact sv_all _ rfl | exact rfl) ?_) | (refine hp_store1 H rfl rfl rfl rfl rfl (by kernel_rfl) (by first | rfl | exact fit_.out) (by rfl) (by first | exact sv_all _ rfl | exact rfl) ?_) | (refine hp_store2 H rfl rfl rfl rfl rfl (by kernel_rfl) (by first | rfl | exact fit_.out) (by rfl) (by first | exact sv_all _ rfl | exact rfl) ?_)); intro W_ H_; clear H; have H := H_; clear H_) | ((with_reducible refine gate_dst (N := 27) rfl ?_); refine hp_cell rfl rfl rfl ((H.below.cell (World.block_lt_of_cell? w _ hx.out)).trans hx.out) (by kernel_rfl) ?_))
  exact (bodyPost_ret (results_cell_row rfl _ _ _ 37 _ (0, 0) _ rfl (H.heap (by repeat (first | exact .head _ | refine .tail _ ?_))) Try.underlying37 rfl (by kernel_rfl)) rfl ⟨s', rfl, fun W9_ hW9_ hd => hr'.out W9_ (fun b h1 h2 => (hW9_ b (Nat.le_trans hsz_ h1) (by rw [hz_.out]; exact h2)).trans (hf_.out b (by omega))) hd, H.below⟩)
def St.ends (t : St) (i : IV) : St :=
  if i.op = 0 then { t with code := rd t.R i.a, en := true, flt := 0 } else if i.op = 25 then { t with en := true, flt := 1 } else if t.back.length = 0 then { t with en := true, flt := 5 } else { t with at_ := rd t.back ((t.back.length : Int) - 1), back := t.back.take (t.back.length - 1) }
theorem rds_init {k : IntKind} {w : World} {A : Option Addr} {n c : Nat} {l : List Int} (h : RdS k w A n c l) : RdS k w A (n - 1) c (l.take (l.length - 1)) :=
  ⟨by rw [List.length_take, h.1]; omega, by have := h.2.1; omega, h.2.2.1, Kd.C_take h.2.2.2 (by omega)⟩
theorem Rd.ends {w : World} {s : SV} {t : St} (h : Rd w s t) (i : IV) : Rd w (s.ends i t.back) (t.ends i) := by
  unfold SV.ends St.ends
  have hn := h.back.1
  rw [hn]
  split
  · exact ⟨h.at_, h.R, h.n16, h.back, h.wr, h.byt, h.inp, h.out, rfl, by simp only [h.R], rfl⟩
  · split
    · exact ⟨h.at_, h.R, h.n16, h.back, h.wr, h.byt, h.inp, h.out, rfl, h.code, rfl⟩
    · split
      · exact ⟨h.at_, h.R, h.n16, h.back, h.wr, h.byt, h.inp, h.out, rfl, h.code, rfl⟩
      · exact ⟨rfl, h.R, h.n16, by have := rds_init h.back; rw [hn] at this; exact this, h.wr, h.byt, h.inp, h.out, h.en, h.code, h.flt⟩
set_option maxHeartbeats 8000000 in
set_option maxRecDepth 100000 in
theorem step_ends (s : SV) (t : St) (A : Option Addr) (n c : Nat) (l : List Int) (w : World) (h : Aside0 (Rd w s t)) (he : s.en = false) (h0 : 0 ≤ s.at_) (h1 : ¬ s.at_ ≥ (n : Int)) (hl : Aside0 (RdS .u32 w A n c l)) (i : IV) (hg : Aside0 (code_Get.f 9 (rd l s.at_) = some (i.op, i.a, i.b, i.c_, i.imm, 0)))
    (hk : Aside0 (kindF i.op = 5)) (i0 : 0 ≤ i.a) (i1 : i.a < 16) :
    Calls Try.prog 29 #[.slice A n c, .agg s.c] w (StIs w s t (t.ends i)) := by
  have H := Hp.nil w
  have ge : s.c[22]? = some (.bool false) := by rw [g_en, he]
  clear he
  have ge := Aside0.mk ge
  have hn : ¬ s.at_ < 0 := by omega
  have hlt : s.at_ < (n : Int) := by omega
  obtain ⟨ad, rfl, hx⟩ := hl.out.at_ s.at_ h0 hlt
  have hx := Aside0.mk hx
  clear hl
  obtain ⟨op, a, b, c_, imm⟩ := i
  have hT : Aside0 (∀ W', Below w.heap.size w W' → Calls Try.prog 50 #[.agg s.c, .agg (IV.c ⟨op, a, b, c_, imm⟩)] W' fun e w' => e = .returned (.agg (s.ends ⟨op, a, b, c_, imm⟩ t.back).c) ∧ Below W'.heap.size W' w') := ⟨fun W' hW => ends_c s ⟨op, a, b, c_, imm⟩ t.back W' i0 i1 ⟨h.out.back.1⟩ h.out.back.2.1 h.out.back.2.2.1 ⟨(h.out.back.below hW).2.2.2⟩⟩
  clear i0 i1
  go_enter Try.func29, Try.ntmps29
  go_wp2_with (first | (refine hp_guard rfl ?_) | (refine hp_box H rfl rfl rfl ?_; intro g_ W_ H_; clear H; have H := H_; clear H_) | (refine hp_alloc H rfl rfl (fun w_ => by go_simp; rfl) ?_; intro g_ W_ H_; clear H; have H := H_; clear H_) | (first | (refine hp_whole H rfl (ty := 37) rfl rfl (by repeat (first | exact .head _ | refine .tail _ ?_)) (by kernel_rfl) (by kernel_rfl) ?_) | (refine hp_whole H rfl (ty := 55) rfl rfl (by repeat (first | exact .head _ | refine .tail _ ?_)) (by kernel_rfl) (by kernel_rfl) ?_)) | (refine hp_load H rfl rfl rfl (by repeat (first | exact .head _ | refine .tail _ ?_)) (by kernel_rfl) (by first | exact i_of _ _ _ _ _ | exact g_at _ | exact ge.out) ?_) | (refine hp_goes H rfl (f := 45) rfl Try.func45 (by kernel_rfl) rfl (code_Get.calls 9 _ _ _ _ _ _ _ _ hg.out) (by (try simp only [List.map_toArray, List.map_cons, List.map_nil]); first | done | rfl) ?_; rintro e_ W_ ⟨rfl, hb_⟩; refine ⟨_, rfl, hb_, fun H_ => ?_⟩; clear H; have H := H_; clear H_) | (refine hp_goes H rfl (f := 46) rfl Try.func46 (by kernel_rfl) rfl (kind_k ⟨op, a, b, c_, imm⟩ 5 hk.out _) (by (try simp only [List.map_toArray, List.map_cons, List.map_nil]); first | done | rfl) ?_; rintro e_ W_ ⟨rfl, hb_⟩; refine ⟨_, rfl, hb_, fun H_ => ?_⟩; clear H; have H := H_; clear H_) | (refine hp_goes H rfl (f := 50) rfl Try.func50 (by kernel_rfl) rfl (hT.out _ H.below) (by (try simp only [List.map_toArray, List.map_cons, List.map_nil]); first | done | rfl) ?_; rintro e_ W_ ⟨rfl, hb_⟩; refine ⟨_, rfl, hb_, fun H_ => ?_⟩; clear H; have H := H_; clear H_) | ((first | (refine hp_store0 H rfl rfl rfl rfl rfl (by kernel_rfl) (by first | rfl | exact fit_.out) (by rfl) (by first | exact sv_all _ rfl | exact rfl) ?_) | (refine hp_store1 H rfl rfl rfl rfl rfl (by kernel_rfl) (by first | rfl | exact fit_.out) (by rfl) (by first | exact sv_all _ rfl | exact rfl) ?_) | (refine hp_store2 H rfl rfl rfl rfl rfl (by kernel_rfl) (by first | rfl | exact fit_.out) (by rfl) (by first | exact sv_all _ rfl | exact rfl) ?_)); intro W_ H_; clear H; have H := H_; clear H_) | ((with_reducible refine gate_dst (N := 27) rfl ?_); refine hp_cell rfl rfl rfl ((H.below.cell (World.block_lt_of_cell? w _ hx.out)).trans hx.out) (by kernel_rfl) ?_))
  exact (bodyPost_ret (results_cell_row rfl _ _ _ 37 _ (0, 0) _ rfl (H.heap (by repeat (first | exact .head _ | refine .tail _ ?_))) Try.underlying37 rfl (by kernel_rfl)) rfl ⟨_, rfl, fun W9_ hW9_ hd => hd.ends _, H.below⟩)
end Go.Proofs.Ytcagccodmmcnfaa.Cpu
end
section
/- A machine's step: what reckons. Own work; a template. -/
namespace Go.Proofs.Ytcagccodmmcnfaa.Cpu
open Go.RowKit Go.Proofs.YtcagccodmmcnfaaW.PrintWords Go.Proofs.YtcagccodmmcnfaaW.PrintLast Go.Proofs.YtcagccodmmcnfaaW.PrintMore Go.Proofs.Ytcagccodmmcnfaa.Hp Go.Proofs.Ytcagccodmmcnfaa.Q
set_option linter.unusedVariables false
set_option linter.unusedSimpArgs false
attribute [local go_sem] add_any
set_option maxHeartbeats 8000000 in
set_option maxRecDepth 100000 in
theorem step_alu (s : SV) (t : St) (A : Option Addr) (n c : Nat) (l : List Int) (w : World) (h : Aside0 (Rd w s t)) (he : s.en = false) (h0 : 0 ≤ s.at_) (h1 : ¬ s.at_ ≥ (n : Int)) (hl : Aside0 (RdS .u32 w A n c l)) (i : IV) (hg : Aside0 (code_Get.f 9 (rd l s.at_) = some (i.op, i.a, i.b, i.c_, i.imm, 0)))
    (hk : Aside0 (kindF i.op = 0)) (ho : ¬ i.op = 24) (ia : Aside0 (0 ≤ i.a ∧ i.a < 16)) (ib0 : 0 ≤ i.b) (ib1 : i.b < 16) (ic0 : 0 ≤ i.c_) (ic1 : i.c_ < 16) (r : Int) (hr : Aside0 (alu_Do.f i.op i.a i.b i.c_ i.imm (rd t.R i.b) (rd t.R i.c_) = some r)) :
    Calls Try.prog 29 #[.slice A n c, .agg s.c] w (StIs w s t (t.put i.a r)) := by
  have H := Hp.nil w
  have ge : s.c[22]? = some (.bool false) := by rw [g_en, he]
  clear he
  have ge := Aside0.mk ge
  have hn : ¬ s.at_ < 0 := by omega
  have hlt : s.at_ < (n : Int) := by omega
  obtain ⟨ad, rfl, hx⟩ := hl.out.at_ s.at_ h0 hlt
  have hx := Aside0.mk hx
  clear hl
  obtain ⟨op, a, b, c_, imm⟩ := i
  simp only at ho ia ib0 ib1 ic0 ic1 hr
  go_enter Try.func29, Try.ntmps29
  go_wp2_with (first | (refine hp_guard rfl ?_) | ((with_reducible refine gate_dst (N := 3) rfl ?_); refine hp_box H rfl rfl rfl ?_; intro gs W_ H_; clear H; have H := H_; clear H_) | ((with_reducible refine gate_dst (N := 4) rfl ?_); refine hp_alloc H rfl rfl (fun w_ => by go_simp; rfl) ?_; intro gr W_ H_; clear H; have H := H_; clear H_) | ((with_reducible refine gate_dst (N := 5) rfl ?_); refine hp_alloc H rfl rfl (fun w_ => by go_simp; rfl) ?_; intro gi W_ H_; clear H; have H := H_; clear H_) | (first | (refine hp_whole H rfl (ty := 37) rfl rfl (by repeat (first | exact .head _ | refine .tail _ ?_)) (by kernel_rfl) (by kernel_rfl) ?_) | (refine hp_whole H rfl (ty := 55) rfl rfl (by repeat (first | exact .head _ | refine .tail _ ?_)) (by kernel_rfl) (by kernel_rfl) ?_)) | (refine hp_load H rfl rfl rfl (by repeat (first | exact .head _ | refine .tail _ ?_)) (by kernel_rfl) (by first | exact i_of _ _ _ _ _ | exact g_at _ | exact ge.out) ?_) | (refine hp_goes H rfl (f := 45) rfl Try.func45 (by kernel_rfl) rfl (code_Get.calls 9 _ _ _ _ _ _ _ _ hg.out) (by (try simp only [List.map_toArray, List.map_cons, List.map_nil]); first | done | rfl) ?_; rintro e_ W_ ⟨rfl, hb_⟩; refine ⟨_, rfl, hb_, fun H_ => ?_⟩; clear H; have H := H_; clear H_) | (refine hp_goes H rfl (f := 46) rfl Try.func46 (by kernel_rfl) rfl (kind_k ⟨op, a, b, c_, imm⟩ 0 hk.out _) (by (try simp only [List.map_toArray, List.map_cons, List.map_nil]); first | done | rfl) ?_; rintro e_ W_ ⟨rfl, hb_⟩; refine ⟨_, rfl, hb_, fun H_ => ?_⟩; clear H; have H := H_; clear H_) | ((first | (refine hp_store0 H rfl rfl rfl rfl rfl (by kernel_rfl) (by first | rfl | exact fit_.out) (by rfl) (by first | exact sv_all _ rfl | exact rfl) ?_) | (refine hp_store1 H rfl rfl rfl rfl rfl (by kernel_rfl) (by first | rfl | exact fit_.out) (by rfl) (by first | exact sv_all _ rfl | exact rfl) ?_) | (refine hp_store2 H rfl rfl rfl rfl rfl (by kernel_rfl) (by first | rfl | exact fit_.out) (by rfl) (by first | exact sv_all _ rfl | exact rfl) ?_)); intro W_ H_; clear H; have H := H_; clear H_) | ((with_reducible refine gate_dst (N := 27) rfl ?_); refine hp_cell rfl rfl rfl ((H.below.cell (World.block_lt_of_cell? w _ hx.out)).trans hx.out) (by kernel_rfl) ?_))
  have rb := sv_reg s b ib0 ib1
  have rc := sv_reg s c_ ic0 ic1
  replace rb := Aside0.mk rb
  replace rc := Aside0.mk rc
  have hR : s.R = t.R := h.out.R
  have hr' : Aside0 (alu_Do.f op a b c_ imm (rd s.R b) (rd s.R c_) = some r) := ⟨by rw [hR]; exact hr.out⟩
  have h16 : Aside0 (s.R.length = 16) := ⟨by rw [hR]; exact h.out.n16⟩
  clear hR
  refine wp_region_held_drew (S := fun W' => ∃ x : Array Value, Hp w W' [(gi, #[.int .i64 op, .int .i64 a, .int .i64 b, .int .i64 c_, .int .i64 imm], 55), (gr, x, 37), (gs, s.c, 37)] ∧ x.size = 25) (by kernel_rfl) ⟨_, H.drew, rfl⟩ (fun hHeld => ?_)
  change wpAnyH _ _ _ _ _ 17 (Array.replicate 17 false) _ _
  clear H
  (refine hk_take (i := 0) rfl (by kernel_rfl) (by kernel_rfl) (by kernel_rfl) (fun _ _ _ h => h) (yl_whole rfl rfl (ty := 37) rfl (fun w_ ⟨x_, H_, _⟩ => H_.heap (by repeat (first | exact .head _ | refine .tail _ ?_))) (by kernel_rfl) (by kernel_rfl)) hHeld ?_; (try simp only [Act.put, List.setIfInBounds_toArray, List.set_cons_zero, List.set_cons_succ]))
  (refine hk_take (i := 1) (v := ?_) rfl (by kernel_rfl) (by kernel_rfl) (by kernel_rfl) (fun _ _ _ h => h) (Or.inl ⟨by rfl, ?_⟩) hHeld ?_; rotate_left 1; (intro w_ hSw_; go_simp; with_reducible rfl); (try simp only [Act.put, List.setIfInBounds_toArray, List.set_cons_zero, List.set_cons_succ]))
  (refine hk_take (i := 2) rfl (by kernel_rfl) (by kernel_rfl) (by kernel_rfl) (fun _ _ _ h => h) (yl_load rfl rfl rfl (fun w_ ⟨x_, H_, _⟩ => H_.heap (by repeat (first | exact .head _ | refine .tail _ ?_))) (by kernel_rfl) (i_of1 _ _ _ _ _)) hHeld ?_; (try simp only [Act.put, List.setIfInBounds_toArray, List.set_cons_zero, List.set_cons_succ]))
  (refine hk_take (i := 3) rfl (by kernel_rfl) (by kernel_rfl) (by kernel_rfl) (fun _ _ _ h => h) (yl_whole rfl rfl (ty := 55) rfl (fun w_ ⟨x_, H_, _⟩ => H_.heap (by repeat (first | exact .head _ | refine .tail _ ?_))) (by kernel_rfl) (by kernel_rfl)) hHeld ?_; (try simp only [Act.put, List.setIfInBounds_toArray, List.set_cons_zero, List.set_cons_succ]))
  (refine hk_take (i := 4) (v := ?_) rfl (by kernel_rfl) (by kernel_rfl) (by kernel_rfl) (fun _ _ _ h => h) (Or.inl ⟨by rfl, ?_⟩) hHeld ?_; rotate_left 1; (intro w_ hSw_; go_simp; with_reducible rfl); (try simp only [Act.put, List.setIfInBounds_toArray, List.set_cons_zero, List.set_cons_succ]))
  (refine hk_take (i := 5) rfl (by kernel_rfl) (by kernel_rfl) (by kernel_rfl) (fun _ _ _ h => h) (yl_load rfl rfl rfl (fun w_ ⟨x_, H_, _⟩ => H_.heap (by repeat (first | exact .head _ | refine .tail _ ?_))) (by kernel_rfl) (i_of2 _ _ _ _ _)) hHeld ?_; (try simp only [Act.put, List.setIfInBounds_toArray, List.set_cons_zero, List.set_cons_succ]))
  (refine hk_take (i := 6) (v := ?_) rfl (by kernel_rfl) (by kernel_rfl) (by kernel_rfl) (fun _ _ _ h => h) (Or.inl ⟨by rfl, ?_⟩) hHeld ?_; rotate_left 1; (intro w_ hSw_; go_simp; with_reducible rfl); (try simp only [Act.put, List.setIfInBounds_toArray, List.set_cons_zero, List.set_cons_succ])); (refine hk_take (i := 7) (v := ?_) rfl (by kernel_rfl) (by kernel_rfl) (by kernel_rfl) (fun _ _ _ h => h) (Or.inl ⟨by rfl, ?_⟩) hHeld ?_; rotate_left 1; (intro w_ hSw_; go_simp; with_reducible rfl); (try simp only [Act.put, List.setIfInBounds_toArray, List.set_cons_zero, List.set_cons_succ]))
  (refine hk_take (i := 8) rfl (by kernel_rfl) (by kernel_rfl) (by kernel_rfl) (fun _ _ _ h => h) (yl_load rfl rfl rfl (fun w_ ⟨x_, H_, _⟩ => H_.heap (by repeat (first | exact .head _ | refine .tail _ ?_))) (by kernel_rfl) rb.out) hHeld ?_; (try simp only [Act.put, List.setIfInBounds_toArray, List.set_cons_zero, List.set_cons_succ]))
  (refine hk_take (i := 9) (v := ?_) rfl (by kernel_rfl) (by kernel_rfl) (by kernel_rfl) (fun _ _ _ h => h) (Or.inl ⟨by rfl, ?_⟩) hHeld ?_; rotate_left 1; (intro w_ hSw_; go_simp; with_reducible rfl); (try simp only [Act.put, List.setIfInBounds_toArray, List.set_cons_zero, List.set_cons_succ]))
  (refine hk_take (i := 10) rfl (by kernel_rfl) (by kernel_rfl) (by kernel_rfl) (fun _ _ _ h => h) (yl_load rfl rfl rfl (fun w_ ⟨x_, H_, _⟩ => H_.heap (by repeat (first | exact .head _ | refine .tail _ ?_))) (by kernel_rfl) (i_of3 _ _ _ _ _)) hHeld ?_; (try simp only [Act.put, List.setIfInBounds_toArray, List.set_cons_zero, List.set_cons_succ]))
  (refine hk_take (i := 11) (v := ?_) rfl (by kernel_rfl) (by kernel_rfl) (by kernel_rfl) (fun _ _ _ h => h) (Or.inl ⟨by rfl, ?_⟩) hHeld ?_; rotate_left 1; (intro w_ hSw_; go_simp; with_reducible rfl); (try simp only [Act.put, List.setIfInBounds_toArray, List.set_cons_zero, List.set_cons_succ])); (refine hk_take (i := 12) (v := ?_) rfl (by kernel_rfl) (by kernel_rfl) (by kernel_rfl) (fun _ _ _ h => h) (Or.inl ⟨by rfl, ?_⟩) hHeld ?_; rotate_left 1; (intro w_ hSw_; go_simp; with_reducible rfl); (try simp only [Act.put, List.setIfInBounds_toArray, List.set_cons_zero, List.set_cons_succ]))
  (refine hk_take (i := 13) rfl (by kernel_rfl) (by kernel_rfl) (by kernel_rfl) (fun _ _ _ h => h) (yl_load rfl rfl rfl (fun w_ ⟨x_, H_, _⟩ => H_.heap (by repeat (first | exact .head _ | refine .tail _ ?_))) (by kernel_rfl) rc.out) hHeld ?_; (try simp only [Act.put, List.setIfInBounds_toArray, List.set_cons_zero, List.set_cons_succ]))
  (refine hk_op (i := 14) rfl (by kernel_rfl) (fun K hK => ?_))
  refine hs_goes0 rfl (f := 48) rfl Try.func48 (by kernel_rfl) rfl (alu_Do.calls op a b c_ imm _ _ r _ hr'.out) (by (try simp only [List.map_toArray, List.map_cons, List.map_nil]); first | done | rfl) ?_
  rintro e_ W2_ ⟨rfl, hb_⟩
  refine ⟨_, rfl, ?_⟩
  refine hK.out _ _ (hHeld.imp fun _ H_ => ⟨H_.1.call hb_, H_.2⟩) (fun hHeld => ?_)
  clear hK K
  (try simp only [Act.put, List.setIfInBounds_toArray, List.set_cons_zero, List.set_cons_succ])
  (refine hk_op (i := 15) rfl (by kernel_rfl) (fun K hK => ?_))
  refine hs_goes0 rfl (f := 47) rfl Try.func47 (by kernel_rfl) rfl (put_c s a r _ ia.out.1 ia.out.2 h16) (by (try simp only [List.map_toArray, List.map_cons, List.map_nil]); first | done | rfl) ?_
  rintro e_ W3_ ⟨rfl, hb2_⟩
  refine ⟨_, rfl, ?_⟩
  refine hK.out _ _ (hHeld.imp fun _ H_ => ⟨H_.1.call hb2_, H_.2⟩) (fun hHeld => ?_)
  clear hK K
  (try simp only [Act.put, List.setIfInBounds_toArray, List.set_cons_zero, List.set_cons_succ])
  obtain ⟨x_, H, hz_⟩ := hHeld
  (refine hk_op (i := 16) rfl (by kernel_rfl) (fun K hK => ?_))
  refine hs_store H rfl rfl rfl rfl (n := 1) rfl rfl (by kernel_rfl) (by rw [hz_]; rfl) (by rfl) (sv_all _ hz_) rfl ?_
  intro W4_ H
  refine hK.out _ _ ⟨_, H, rfl⟩ (fun hHeld => ?_)
  clear hK K
  (try simp only [Act.put, List.setIfInBounds_toArray, List.set_cons_zero, List.set_cons_succ])
  (refine wpAnyH_done (by kernel_rfl) ?_ _)
  go_wp2_with (first | (refine hp_guard rfl ?_))
  exact (bodyPost_ret (results_cell_row rfl _ _ _ 37 _ (0, 0) _ rfl (H.heap (by repeat (first | exact .head _ | refine .tail _ ?_))) Try.underlying37 rfl (by kernel_rfl)) rfl ⟨s.put a r, rfl, fun W9_ hW9_ hd => hd.put a r, H.below⟩)
end Go.Proofs.Ytcagccodmmcnfaa.Cpu
end
