-- Written by drv.py, a program of this session, over the kit's print, out of the translation. Not trusted: Lean checks it.
import Derived.Test.YtcagccodmmcnfaaQD0
import Derived.Test.YtcagccodmmcnfaaQA
import Derived.Test.YtcagccodmmcnfaaHforms
namespace Go.Proofs.Ytcagccodmmcnfaa.Q
open Go.RowKit Go.Proofs.YtcagccodmmcnfaaW.PrintWords Go.Proofs.YtcagccodmmcnfaaW.PrintLast Go.Proofs.YtcagccodmmcnfaaW.PrintMore
attribute [local go_sem] max2_int min2_int max_two min_two max_three min_three max_four min_four   -- for this text's walks alone
set_option linter.unusedVariables false
set_option linter.unusedSimpArgs false

attribute [local go_sem] run_index_arV84 run_field_form
set_option maxHeartbeats 8000000 in
set_option maxRecDepth 100000 in
theorem code_Get.calls (k : Nat) (a0 : Int) (r1 : Int) (r2 : Int) (r3 : Int) (r4 : Int) (r5 : Int) (r6 : Int) (w : World) (h : code_Get.f k a0 = some (r1, r2, r3, r4, r5, r6)) :
    Calls Try.prog 45 #[.int .u32 a0] w fun e w' => e = .returned (.tuple #[.agg #[.int .i64 r1, .int .i64 r2, .int .i64 r3, .int .i64 r4, .int .i64 r5], .int .i64 r6]) ∧ Below w.heap.size w w' := by
 have hu55 := Try.underlying55
 have hu83 := Try.underlying83
 have HB := Aside0.mk (Below.refl w.heap.size w)
 have H : (if (wrap64 (a0 / 16777216)) ≥ 26 then (some (0, 0, 0, 0, 0, 3)) else ((code_forms.f).bind fun t121 => (if 0 ≤ (wrap64 (a0 / 16777216)) then (if (wrap64 (a0 / 16777216)) < 26 then (if (form_w (wrap64 (a0 / 16777216))) < 24 then (code_Get.j0 k a0 (wrap64 (a0 / 16777216)) (wrap64 (Go.bits .and .u32 (a0 / 1048576) 15)) (wrap64 (Go.bits .and .u32 (a0 / 65536) 15)) 0 0 (form_a (wrap64 (a0 / 16777216))) (form_b (wrap64 (a0 / 16777216))) (form_c (wrap64 (a0 / 16777216))) (form_w (wrap64 (a0 / 16777216))) (form_p (wrap64 (a0 / 16777216)))) else (code_Get.j0 k a0 (wrap64 (a0 / 16777216)) 0 0 0 0 (form_a (wrap64 (a0 / 16777216))) (form_b (wrap64 (a0 / 16777216))) (form_c (wrap64 (a0 / 16777216))) (form_w (wrap64 (a0 / 16777216))) (form_p (wrap64 (a0 / 16777216))))) else (none)) else (none)))) = some (r1, r2, r3, r4, r5, r6) := h
 clear h
 by_cases c2 : (wrap64 (a0 / 16777216)) ≥ 26
 ·
  rw [if_pos c2] at H
  have c2b0 : decide (26 ≤ (wrap64 (a0 / 16777216))) = true := decide_eq_true c2
  clear c2
  simp only [Option.some.injEq, Prod.mk.injEq] at H
  obtain ⟨rfl, rfl, rfl, rfl, rfl, rfl⟩ := H
  go_enter Try.func45, Try.ntmps45
  go_wp2_with (first | ((with_reducible refine gate_dst (N := 2) rfl ?_); refine box_event ?hg (N := 2) ?hd (cs := #[.int .i64 0, .int .i64 0, .int .i64 0, .int .i64 0, .int .i64 0]) (t := 55) ?hr ?_; (case hd => rfl); (case hg => rfl); (case hr => first | (go_simp; done) | (go_simp; rfl)); intro gb119 hg w3 hbox hb; have n0_ := Aside0.mk (below_step (by repeat (first | (with_reducible first | exact HB.out | apply below_alloc | apply pw_below_drewN | apply below_drew1) | exact HB.out)) hb); have n1_ := Aside0.mk (hbox); have n2_ := Aside0.mk ((by rw [hg]; exact (below_size (by repeat (first | (with_reducible first | exact HB.out | apply below_alloc | apply pw_below_drewN | apply below_drew1) | exact HB.out))) : w.heap.size ≤ gb119)); have n3_ := Aside0.mk ((by rw [hg]; exact (below_size (by repeat (first | (with_reducible first | exact HB.out | apply below_alloc | apply pw_below_drewN | apply below_drew1) | exact HB.out))) : w.heap.size ≤ gb119)); clear HB; have HB := n0_; have BK119 := n1_; have GW119 := n2_; have GE119 := n3_; clear n0_ n1_ n2_ n3_; clear hb hbox hg) | ((with_reducible refine gate_dst (N := 4) rfl ?_); refine box_event ?hg (N := 4) ?hd (cs := #[.int .i64 0, .int .i64 0, .int .i64 0, .int .i64 0, .int .i64 0]) (t := 55) ?hr ?_; (case hd => rfl); (case hg => rfl); (case hr => first | (go_simp; done) | (go_simp; rfl)); intro gb120 hg w4 hbox hb; have n0_ := Aside0.mk (blk_below (g := gb119) (o := .cells #[.int .i64 0, .int .i64 0, .int .i64 0, .int .i64 0, .int .i64 0] 55 (0, 0)) (by (with_reducible repeat (first | refine blk_drewN ?_ _ | refine blk_drew ?_ | refine blk_alloc ?_ _)); exact BK119.out) hb); have n1_ := Aside0.mk (below_step (by repeat (first | (with_reducible first | exact HB.out | apply below_alloc | apply pw_below_drewN | apply below_drew1 | refine below_set ?_ GE119.out) | exact HB.out)) hb); have n2_ := Aside0.mk (hbox); have n3_ := Aside0.mk ((by rw [hg]; exact (below_size (by repeat (first | (with_reducible first | exact HB.out | apply below_alloc | apply pw_below_drewN | apply below_drew1 | refine below_set ?_ GE119.out) | exact HB.out))) : w.heap.size ≤ gb120)); have n4_ := Aside0.mk ((by rw [hg]; exact (below_size (by repeat (first | (with_reducible first | exact HB.out | apply below_alloc | apply pw_below_drewN | apply below_drew1 | refine below_set ?_ GE119.out) | exact HB.out))) : w.heap.size ≤ gb120)); have n5_ := Aside0.mk ((by rw [hg]; exact Nat.ne_of_lt (blk_lt (g := gb119) (o := .cells #[.int .i64 0, .int .i64 0, .int .i64 0, .int .i64 0, .int .i64 0] 55 (0, 0)) (by (with_reducible repeat (first | refine blk_drewN ?_ _ | refine blk_drew ?_ | refine blk_alloc ?_ _)); exact BK119.out)) : gb119 ≠ gb120)); have n6_ := Aside0.mk ((by rw [hg]; exact Nat.ne_of_gt (blk_lt (g := gb119) (o := .cells #[.int .i64 0, .int .i64 0, .int .i64 0, .int .i64 0, .int .i64 0] 55 (0, 0)) (by (with_reducible repeat (first | refine blk_drewN ?_ _ | refine blk_drew ?_ | refine blk_alloc ?_ _)); exact BK119.out)) : gb120 ≠ gb119)); clear BK119; clear HB; have BK119 := n0_; have HB := n1_; have BK120 := n2_; have GW120 := n3_; have GE120 := n4_; have NB119_120 := n5_; have NB120_119 := n6_; clear n0_ n1_ n2_ n3_ n4_ n5_ n6_; clear hb hbox hg; have hnb5 := NB120_119.out; have hnc5 := NB119_120.out; have hcz6_0 : w4.cell? ⟨gb120, 0, none⟩ = some (.int .i64 0) := (blk_cell BK120.out 0).trans rfl; have hcz6_1 : w4.cell? ⟨gb120, 1, none⟩ = some (.int .i64 0) := (blk_cell BK120.out 1).trans rfl; have hcz6_2 : w4.cell? ⟨gb120, 2, none⟩ = some (.int .i64 0) := (blk_cell BK120.out 2).trans rfl; have hcz6_3 : w4.cell? ⟨gb120, 3, none⟩ = some (.int .i64 0) := (blk_cell BK120.out 3).trans rfl; have hcz6_4 : w4.cell? ⟨gb120, 4, none⟩ = some (.int .i64 0) := (blk_cell BK120.out 4).trans rfl; have hfz6_0 := blk_frozen BK120.out 0; have hfz6_1 := blk_frozen BK120.out 1; have hfz6_2 := blk_frozen BK120.out 2; have hfz6_3 := blk_frozen BK120.out 3; have hfz6_4 := blk_frozen BK120.out 4; have hcz7_0 : w4.cell? ⟨gb119, 0, none⟩ = some (.int .i64 0) := (blk_cell BK119.out 0).trans rfl; have hcz7_1 : w4.cell? ⟨gb119, 1, none⟩ = some (.int .i64 0) := (blk_cell BK119.out 1).trans rfl; have hcz7_2 : w4.cell? ⟨gb119, 2, none⟩ = some (.int .i64 0) := (blk_cell BK119.out 2).trans rfl; have hcz7_3 : w4.cell? ⟨gb119, 3, none⟩ = some (.int .i64 0) := (blk_cell BK119.out 3).trans rfl; have hcz7_4 : w4.cell? ⟨gb119, 4, none⟩ = some (.int .i64 0) := (blk_cell BK119.out 4).trans rfl; have hfz7_0 := blk_frozen BK119.out 0; have hfz7_1 := blk_frozen BK119.out 1; have hfz7_2 := blk_frozen BK119.out 2; have hfz7_3 := blk_frozen BK119.out 3; have hfz7_4 := blk_frozen BK119.out 4))
  refine bodyPost_ret (results_ct rfl _ _ gb119 55 #[.int .i64 0, .int .i64 0, .int .i64 0, .int .i64 0, .int .i64 0] (0, 0) _ rfl (by (with_reducible repeat (first | refine blk_drewN ?_ _ | refine blk_drew ?_ | refine blk_alloc ?_ _)); refine blk_put (cs := #[.int .i64 0, .int .i64 0, .int .i64 0, .int .i64 0, .int .i64 0]) ?_ 4 _ rfl; (with_reducible repeat (first | refine blk_drewN ?_ _ | refine blk_drew ?_ | refine blk_alloc ?_ _)); refine blk_put (cs := #[.int .i64 0, .int .i64 0, .int .i64 0, .int .i64 0, .int .i64 0]) ?_ 3 _ rfl; (with_reducible repeat (first | refine blk_drewN ?_ _ | refine blk_drew ?_ | refine blk_alloc ?_ _)); refine blk_put (cs := #[.int .i64 0, .int .i64 0, .int .i64 0, .int .i64 0, .int .i64 0]) ?_ 2 _ rfl; (with_reducible repeat (first | refine blk_drewN ?_ _ | refine blk_drew ?_ | refine blk_alloc ?_ _)); refine blk_put (cs := #[.int .i64 0, .int .i64 0, .int .i64 0, .int .i64 0, .int .i64 0]) ?_ 1 _ rfl; (with_reducible repeat (first | refine blk_drewN ?_ _ | refine blk_drew ?_ | refine blk_alloc ?_ _)); refine blk_put (cs := #[.int .i64 0, .int .i64 0, .int .i64 0, .int .i64 0, .int .i64 0]) ?_ 0 _ rfl; (with_reducible repeat (first | refine blk_drewN ?_ _ | refine blk_drew ?_ | refine blk_alloc ?_ _)); refine blk_far ?_ NB119_120.out _; (with_reducible repeat (first | refine blk_drewN ?_ _ | refine blk_drew ?_ | refine blk_alloc ?_ _)); refine blk_far ?_ NB119_120.out _; (with_reducible repeat (first | refine blk_drewN ?_ _ | refine blk_drew ?_ | refine blk_alloc ?_ _)); refine blk_far ?_ NB119_120.out _; (with_reducible repeat (first | refine blk_drewN ?_ _ | refine blk_drew ?_ | refine blk_alloc ?_ _)); refine blk_far ?_ NB119_120.out _; (with_reducible repeat (first | refine blk_drewN ?_ _ | refine blk_drew ?_ | refine blk_alloc ?_ _)); refine blk_far ?_ NB119_120.out _; (with_reducible repeat (first | refine blk_drewN ?_ _ | refine blk_drew ?_ | refine blk_alloc ?_ _)); exact BK119.out) Try.underlying55 rfl (by kernel_rfl)) rfl ?_
  exact ⟨by first | rfl | (simp [errW_none, errW_some] <;> rfl) | (simp [*, errW_none, errW_some] <;> rfl), by repeat (first | (with_reducible first | exact HB.out | apply below_alloc | apply pw_below_drewN | apply below_drew1 | refine below_set ?_ GE119.out | refine below_set ?_ GE120.out) | exact HB.out)⟩
 ·
  rw [if_neg c2] at H
  have c2b0 : decide (26 ≤ (wrap64 (a0 / 16777216))) = false := decide_eq_false c2
  clear c2
  replace H := Option.bind_eq_some_iff.mp H
  obtain ⟨t121, A80, H⟩ := H
  replace H : (if 0 ≤ (wrap64 (a0 / 16777216)) then (if (wrap64 (a0 / 16777216)) < 26 then (if (form_w (wrap64 (a0 / 16777216))) < 24 then (code_Get.j0 k a0 (wrap64 (a0 / 16777216)) (wrap64 (Go.bits .and .u32 (a0 / 1048576) 15)) (wrap64 (Go.bits .and .u32 (a0 / 65536) 15)) 0 0 (form_a (wrap64 (a0 / 16777216))) (form_b (wrap64 (a0 / 16777216))) (form_c (wrap64 (a0 / 16777216))) (form_w (wrap64 (a0 / 16777216))) (form_p (wrap64 (a0 / 16777216)))) else (code_Get.j0 k a0 (wrap64 (a0 / 16777216)) 0 0 0 0 (form_a (wrap64 (a0 / 16777216))) (form_b (wrap64 (a0 / 16777216))) (form_c (wrap64 (a0 / 16777216))) (form_w (wrap64 (a0 / 16777216))) (form_p (wrap64 (a0 / 16777216))))) else (none)) else (none)) = some (r1, r2, r3, r4, r5, r6) := H
  have A8 := Aside0.mk A80
  clear A80
  obtain ⟨ji9, hji9⟩ : ∃ j_ : Int, (wrap64 (a0 / 16777216)) = j_ := ⟨_, rfl⟩
  replace H : (if 0 ≤ (ji9) then (if (ji9) < 26 then (if (form_w (ji9)) < 24 then (code_Get.j0 k a0 ji9 (wrap64 (Go.bits .and .u32 (a0 / 1048576) 15)) (wrap64 (Go.bits .and .u32 (a0 / 65536) 15)) 0 0 (form_a (ji9)) (form_b (ji9)) (form_c (ji9)) (form_w (ji9)) (form_p (ji9))) else (code_Get.j0 k a0 ji9 0 0 0 0 (form_a (ji9)) (form_b (ji9)) (form_c (ji9)) (form_w (ji9)) (form_p (ji9)))) else (none)) else (none)) = some (r1, r2, r3, r4, r5, r6) := by first | (rw [hji9] at H; exact H) | (simp only [hji9] at H ⊢; exact H)
  (try rw [hji9] at c2b0)
  (try rw [hji9] at A8)
  have hji9w : (IntKind.i64.wrap (a0 / 16777216)) = ji9 := (i64_w _).trans hji9
  by_cases c10 : 0 ≤ (ji9)
  ·
   rw [if_pos c10] at H
   have c10b0 : decide (0 ≤ (ji9)) = true := decide_eq_true c10
   clear c10
   by_cases c11 : (ji9) < 26
   ·
    rw [if_pos c11] at H
    have c11b0 : decide ((ji9) < 26) = true := decide_eq_true c11
    clear c11
    have HC12 := Aside0.mk H
    clear H
    go_enter Try.func45, Try.ntmps45
    try go_wp2_with (first | ((with_reducible refine gate_dst (N := 2) rfl ?_); refine box_event ?hg (N := 2) ?hd (cs := #[.int .i64 0, .int .i64 0, .int .i64 0, .int .i64 0, .int .i64 0]) (t := 55) ?hr ?_; (case hd => rfl); (case hg => rfl); (case hr => first | (go_simp; done) | (go_simp; rfl)); intro gb119 hg w13 hbox hb; have n0_ := Aside0.mk (below_step (by repeat (first | (with_reducible first | exact HB.out | apply below_alloc | apply pw_below_drewN | apply below_drew1) | exact HB.out)) hb); have n1_ := Aside0.mk (hbox); have n2_ := Aside0.mk ((by rw [hg]; exact (below_size (by repeat (first | (with_reducible first | exact HB.out | apply below_alloc | apply pw_below_drewN | apply below_drew1) | exact HB.out))) : w.heap.size ≤ gb119)); have n3_ := Aside0.mk ((by rw [hg]; exact (below_size (by repeat (first | (with_reducible first | exact HB.out | apply below_alloc | apply pw_below_drewN | apply below_drew1) | exact HB.out))) : w.heap.size ≤ gb119)); clear HB; have HB := n0_; have BK119 := n1_; have GW119 := n2_; have GE119 := n3_; clear n0_ n1_ n2_ n3_; clear hb hbox hg) | ((with_reducible refine gate_dst (N := 4) rfl ?_); refine box_event ?hg (N := 4) ?hd (cs := #[.int .i64 0, .int .i64 0, .int .i64 0, .int .i64 0, .int .i64 0]) (t := 55) ?hr ?_; (case hd => rfl); (case hg => rfl); (case hr => first | (go_simp; done) | (go_simp; rfl)); intro gb120 hg w14 hbox hb; have n0_ := Aside0.mk (blk_below (g := gb119) (o := .cells #[.int .i64 0, .int .i64 0, .int .i64 0, .int .i64 0, .int .i64 0] 55 (0, 0)) (by (with_reducible repeat (first | refine blk_drewN ?_ _ | refine blk_drew ?_ | refine blk_alloc ?_ _)); exact BK119.out) hb); have n1_ := Aside0.mk (below_step (by repeat (first | (with_reducible first | exact HB.out | apply below_alloc | apply pw_below_drewN | apply below_drew1 | refine below_set ?_ GE119.out) | exact HB.out)) hb); have n2_ := Aside0.mk (hbox); have n3_ := Aside0.mk ((by rw [hg]; exact (below_size (by repeat (first | (with_reducible first | exact HB.out | apply below_alloc | apply pw_below_drewN | apply below_drew1 | refine below_set ?_ GE119.out) | exact HB.out))) : w.heap.size ≤ gb120)); have n4_ := Aside0.mk ((by rw [hg]; exact (below_size (by repeat (first | (with_reducible first | exact HB.out | apply below_alloc | apply pw_below_drewN | apply below_drew1 | refine below_set ?_ GE119.out) | exact HB.out))) : w.heap.size ≤ gb120)); have n5_ := Aside0.mk ((by rw [hg]; exact Nat.ne_of_lt (blk_lt (g := gb119) (o := .cells #[.int .i64 0, .int .i64 0, .int .i64 0, .int .i64 0, .int .i64 0] 55 (0, 0)) (by (with_reducible repeat (first | refine blk_drewN ?_ _ | refine blk_drew ?_ | refine blk_alloc ?_ _)); exact BK119.out)) : gb119 ≠ gb120)); have n6_ := Aside0.mk ((by rw [hg]; exact Nat.ne_of_gt (blk_lt (g := gb119) (o := .cells #[.int .i64 0, .int .i64 0, .int .i64 0, .int .i64 0, .int .i64 0] 55 (0, 0)) (by (with_reducible repeat (first | refine blk_drewN ?_ _ | refine blk_drew ?_ | refine blk_alloc ?_ _)); exact BK119.out)) : gb120 ≠ gb119)); clear BK119; clear HB; have BK119 := n0_; have HB := n1_; have BK120 := n2_; have GW120 := n3_; have GE120 := n4_; have NB119_120 := n5_; have NB120_119 := n6_; clear n0_ n1_ n2_ n3_ n4_ n5_ n6_; clear hb hbox hg; have hnb15 := NB120_119.out; have hnc15 := NB119_120.out; have hcz16_0 : w14.cell? ⟨gb120, 0, none⟩ = some (.int .i64 0) := (blk_cell BK120.out 0).trans rfl; have hcz16_1 : w14.cell? ⟨gb120, 1, none⟩ = some (.int .i64 0) := (blk_cell BK120.out 1).trans rfl; have hcz16_2 : w14.cell? ⟨gb120, 2, none⟩ = some (.int .i64 0) := (blk_cell BK120.out 2).trans rfl; have hcz16_3 : w14.cell? ⟨gb120, 3, none⟩ = some (.int .i64 0) := (blk_cell BK120.out 3).trans rfl; have hcz16_4 : w14.cell? ⟨gb120, 4, none⟩ = some (.int .i64 0) := (blk_cell BK120.out 4).trans rfl; have hfz16_0 := blk_frozen BK120.out 0; have hfz16_1 := blk_frozen BK120.out 1; have hfz16_2 := blk_frozen BK120.out 2; have hfz16_3 := blk_frozen BK120.out 3; have hfz16_4 := blk_frozen BK120.out 4))
    have n0_ : Aside0 ((((((w14.setCell ⟨gb120, 0, none⟩ (.int .i64 ji9)).setCell ⟨gb120, 1, none⟩ (.int .i64 0)).setCell ⟨gb120, 2, none⟩ (.int .i64 0)).setCell ⟨gb120, 3, none⟩ (.int .i64 0)).setCell ⟨gb120, 4, none⟩ (.int .i64 0)).heap[gb119]? = some (.cells #[.int .i64 0, .int .i64 0, .int .i64 0, .int .i64 0, .int .i64 0] 55 (0, 0))) := ⟨by (with_reducible repeat (first | refine blk_drewN ?_ _ | refine blk_drew ?_ | refine blk_alloc ?_ _)); refine blk_far ?_ NB119_120.out _; (with_reducible repeat (first | refine blk_drewN ?_ _ | refine blk_drew ?_ | refine blk_alloc ?_ _)); refine blk_far ?_ NB119_120.out _; (with_reducible repeat (first | refine blk_drewN ?_ _ | refine blk_drew ?_ | refine blk_alloc ?_ _)); refine blk_far ?_ NB119_120.out _; (with_reducible repeat (first | refine blk_drewN ?_ _ | refine blk_drew ?_ | refine blk_alloc ?_ _)); refine blk_far ?_ NB119_120.out _; (with_reducible repeat (first | refine blk_drewN ?_ _ | refine blk_drew ?_ | refine blk_alloc ?_ _)); refine blk_far ?_ NB119_120.out _; (with_reducible repeat (first | refine blk_drewN ?_ _ | refine blk_drew ?_ | refine blk_alloc ?_ _)); exact BK119.out⟩
    have n1_ : Aside0 ((((((w14.setCell ⟨gb120, 0, none⟩ (.int .i64 ji9)).setCell ⟨gb120, 1, none⟩ (.int .i64 0)).setCell ⟨gb120, 2, none⟩ (.int .i64 0)).setCell ⟨gb120, 3, none⟩ (.int .i64 0)).setCell ⟨gb120, 4, none⟩ (.int .i64 0)).heap[gb120]? = some (.cells #[.int .i64 ji9, .int .i64 0, .int .i64 0, .int .i64 0, .int .i64 0] 55 (0, 0))) := ⟨by (with_reducible repeat (first | refine blk_drewN ?_ _ | refine blk_drew ?_ | refine blk_alloc ?_ _)); refine blk_put (cs := #[.int .i64 ji9, .int .i64 0, .int .i64 0, .int .i64 0, .int .i64 0]) ?_ 4 _ rfl; (with_reducible repeat (first | refine blk_drewN ?_ _ | refine blk_drew ?_ | refine blk_alloc ?_ _)); refine blk_put (cs := #[.int .i64 ji9, .int .i64 0, .int .i64 0, .int .i64 0, .int .i64 0]) ?_ 3 _ rfl; (with_reducible repeat (first | refine blk_drewN ?_ _ | refine blk_drew ?_ | refine blk_alloc ?_ _)); refine blk_put (cs := #[.int .i64 ji9, .int .i64 0, .int .i64 0, .int .i64 0, .int .i64 0]) ?_ 2 _ rfl; (with_reducible repeat (first | refine blk_drewN ?_ _ | refine blk_drew ?_ | refine blk_alloc ?_ _)); refine blk_put (cs := #[.int .i64 ji9, .int .i64 0, .int .i64 0, .int .i64 0, .int .i64 0]) ?_ 1 _ rfl; (with_reducible repeat (first | refine blk_drewN ?_ _ | refine blk_drew ?_ | refine blk_alloc ?_ _)); refine blk_put (cs := #[.int .i64 0, .int .i64 0, .int .i64 0, .int .i64 0, .int .i64 0]) ?_ 0 _ rfl; (with_reducible repeat (first | refine blk_drewN ?_ _ | refine blk_drew ?_ | refine blk_alloc ?_ _)); exact BK120.out⟩
    have n2_ : Aside0 (Below w.heap.size w (((((w14.setCell ⟨gb120, 0, none⟩ (.int .i64 ji9)).setCell ⟨gb120, 1, none⟩ (.int .i64 0)).setCell ⟨gb120, 2, none⟩ (.int .i64 0)).setCell ⟨gb120, 3, none⟩ (.int .i64 0)).setCell ⟨gb120, 4, none⟩ (.int .i64 0))) := ⟨by repeat (first | (with_reducible first | exact HB.out | apply below_alloc | apply pw_below_drewN | apply below_drew1 | refine below_set ?_ GE119.out | refine below_set ?_ GE120.out) | exact HB.out)⟩
    (try clear BK119)
    (try clear BK120)
    (try clear HB)
    generalize (((((w14.setCell ⟨gb120, 0, none⟩ (.int .i64 ji9)).setCell ⟨gb120, 1, none⟩ (.int .i64 0)).setCell ⟨gb120, 2, none⟩ (.int .i64 0)).setCell ⟨gb120, 3, none⟩ (.int .i64 0)).setCell ⟨gb120, 4, none⟩ (.int .i64 0)) = w17 at n0_ n1_ n2_ ⊢
    have BK119 := n0_
    have BK120 := n1_
    have HB := n2_
    clear n0_ n1_ n2_
    have n0_ := Aside0.mk (blk_drew BK119.out)
    have n1_ := Aside0.mk (blk_drew BK120.out)
    have n2_ := Aside0.mk (below_drew1 HB.out)
    clear BK119
    clear BK120
    clear HB
    have BK119 := n0_
    have BK120 := n1_
    have HB := n2_
    clear n0_ n1_ n2_
    refine start_ (n := 6) (S := fun w' => w'.cell? ⟨gb120, 0, none⟩ = some (.int .i64 ji9) ∧ w'.cell? ⟨gb120, 1, none⟩ = some (.int .i64 0) ∧ w'.cell? ⟨gb120, 2, none⟩ = some (.int .i64 0) ∧ w'.cell? ⟨gb120, 3, none⟩ = some (.int .i64 0) ∧ w'.cell? ⟨gb120, 4, none⟩ = some (.int .i64 0)) (ds := []) #[false, false, false, false, false, false] (by kernel_rfl) rfl rfl ⟨(blk_cell BK120.out 0).trans rfl, (blk_cell BK120.out 1).trans rfl, (blk_cell BK120.out 2).trans rfl, (blk_cell BK120.out 3).trans rfl, (blk_cell BK120.out 4).trans rfl⟩ (fun hHeld => ?_)
    generalize w17.drew = w18 at BK119 BK120 HB hHeld ⊢
    refine pure_ (i := 1) (N := some 17) (v := ?_) (a' := ?_) #[false, true, false, false, false, false] rfl rfl (by kernel_rfl) (fun _ _ _ h => h) (Or.inl ⟨by rfl, ?_⟩) ?_ ?_
    rotate_left
    ·
     intro w'
     go_simp
     with_reducible rfl
    rotate_left
    ·
     simp only [Act.put, List.setIfInBounds_toArray, List.set_cons_zero, List.set_cons_succ, i64_w, i32_w]
     rfl
    refine take_ (i := 2) (N := some 18) (v := ?_) (a' := ?_) #[false, true, true, false, false, false] rfl rfl (by kernel_rfl) (fun _ _ _ h => h) (Or.inl ⟨by rfl, ?_⟩) hHeld ?_ ?_
    rotate_left
    ·
     rintro w' ⟨s0, s1, s2, s3, s4⟩
     go_simp
     with_reducible rfl
    rotate_left
    ·
     simp only [Act.put, List.setIfInBounds_toArray, List.set_cons_zero, List.set_cons_succ, i64_w, i32_w]
     rfl
    refine join_ (σ := Nat) 1 #[true, true, true, true, true, false] (fun s_ => [(16, arV84 t121), (5, .pointer (some ⟨s_, 0, none⟩)), (19, .agg #[.bool (form_a (ji9)), .bool (form_b (ji9)), .bool (form_c (ji9)), .int .i64 (form_w (ji9)), .bool (form_p (ji9))])]) (fun s_ w' => (w'.cell? ⟨gb120, 0, none⟩ = some (.int .i64 ji9) ∧ w'.cell? ⟨gb120, 1, none⟩ = some (.int .i64 0) ∧ w'.cell? ⟨gb120, 2, none⟩ = some (.int .i64 0) ∧ w'.cell? ⟨gb120, 3, none⟩ = some (.int .i64 0) ∧ w'.cell? ⟨gb120, 4, none⟩ = some (.int .i64 0)) ∧ (w'.heap[gb119]? = some (.cells #[.int .i64 0, .int .i64 0, .int .i64 0, .int .i64 0, .int .i64 0] 55 (0, 0))) ∧ (w'.heap[gb120]? = some (.cells #[.int .i64 ji9, .int .i64 0, .int .i64 0, .int .i64 0, .int .i64 0] 55 (0, 0))) ∧ (w'.heap[s_]? = some (.cells #[.bool false, .bool false, .bool false, .int .i64 0, .bool false] 83 (0, 0))) ∧ (w.heap.size ≤ s_) ∧ (w.heap.size ≤ s_) ∧ (gb119 ≠ s_) ∧ (s_ ≠ gb119) ∧ (gb120 ≠ s_) ∧ (s_ ≠ gb120) ∧ (Below w.heap.size w w')) ?_ ?_
    rotate_left
    ·
     intro hCont
     refine two_ (i := 0) (j := 4) (Ni := some 16) (Nj := some 5) #[true, true, true, false, false, false] #[false, true, true, false, true, false] rfl rfl rfl rfl (by kernel_rfl) (by decide) (by decide) (fun K hK => ?_) (fun K hK => ?_)
     ·
      skip
      refine goes_ Try.func55 (by kernel_rfl) rfl #[] (by rfl) rfl rfl (by (try simp only [List.map_toArray, List.map_cons, List.map_nil]); first | done | rfl | (simp only [List.length_drop, List.length_take]; rfl)) ?_
      with_reducible refine (code_forms.calls  t121 _ A8.out).mono ?_
      rintro e w19 ⟨rfl, hb⟩
      refine ⟨_, rfl, ?_⟩
      have n0_ := Aside0.mk (blk_below (g := gb119) (o := .cells #[.int .i64 0, .int .i64 0, .int .i64 0, .int .i64 0, .int .i64 0] 55 (0, 0)) (by (with_reducible repeat (first | refine blk_drewN ?_ _ | refine blk_drew ?_ | refine blk_alloc ?_ _)); exact BK119.out) hb)
      have n1_ := Aside0.mk (blk_below (g := gb120) (o := .cells #[.int .i64 ji9, .int .i64 0, .int .i64 0, .int .i64 0, .int .i64 0] 55 (0, 0)) (by (with_reducible repeat (first | refine blk_drewN ?_ _ | refine blk_drew ?_ | refine blk_alloc ?_ _)); exact BK120.out) hb)
      have n2_ := Aside0.mk (below_step (by repeat (first | (with_reducible first | exact HB.out | apply below_alloc | apply pw_below_drewN | apply below_drew1 | refine below_set ?_ GE119.out | refine below_set ?_ GE120.out) | exact HB.out)) hb)
      clear BK119
      clear BK120
      clear HB
      have BK119 := n0_
      have BK120 := n1_
      have HB := n2_
      clear n0_ n1_ n2_
      (try clear hb)
      (try clear hb2)
      (try clear hk)
      (try clear hi)
      refine hK.out _ _ ⟨(blk_cell BK120.out 0).trans rfl, (blk_cell BK120.out 1).trans rfl, (blk_cell BK120.out 2).trans rfl, (blk_cell BK120.out 3).trans rfl, (blk_cell BK120.out 4).trans rfl⟩ (fun hHeld => ?_)
      clear hK K
      refine norm_ (a' := ?_) ?_ ?_
      rotate_left
      ·
       show Act.put _ (some 16) _ = _
       simp only [Act.put, List.setIfInBounds_toArray, List.set_cons_zero, List.set_cons_succ, i64_w, i32_w]
       rfl
      refine take_ (i := 3) (N := some 19) (v := ?_) (a' := ?_) #[true, true, true, true, false, false] rfl rfl (by kernel_rfl) (fun _ _ _ h => h) (Or.inl ⟨by rfl, ?_⟩) hHeld ?_ ?_
      rotate_left
      ·
       rintro w' ⟨s0, s1, s2, s3, s4⟩
       go_simp
       with_reducible rfl
      rotate_left
      ·
       simp only [Act.put, List.setIfInBounds_toArray, List.set_cons_zero, List.set_cons_succ, i64_w, i32_w]
       rfl
      refine one_ (i := 4) (N := some 5) #[true, true, true, true, true, false] rfl rfl (by kernel_rfl) (by decide) (fun K hK => ?_)
      refine box_step ?hg (N := 5) ?hd (cs := #[.bool false, .bool false, .bool false, .int .i64 0, .bool false]) (t := 83) ?hr ?_; (case hd => rfl); (case hg => rfl); (case hr => first | (go_simp; done) | (go_simp; rfl))
      intro gb122 hg w20 hbox hb
      have n0_ := Aside0.mk (blk_below (g := gb119) (o := .cells #[.int .i64 0, .int .i64 0, .int .i64 0, .int .i64 0, .int .i64 0] 55 (0, 0)) (by (with_reducible repeat (first | refine blk_drewN ?_ _ | refine blk_drew ?_ | refine blk_alloc ?_ _)); exact BK119.out) hb)
      have n1_ := Aside0.mk (blk_below (g := gb120) (o := .cells #[.int .i64 ji9, .int .i64 0, .int .i64 0, .int .i64 0, .int .i64 0] 55 (0, 0)) (by (with_reducible repeat (first | refine blk_drewN ?_ _ | refine blk_drew ?_ | refine blk_alloc ?_ _)); exact BK120.out) hb)
      have n2_ := Aside0.mk (below_step (by repeat (first | (with_reducible first | exact HB.out | apply below_alloc | apply pw_below_drewN | apply below_drew1 | refine below_set ?_ GE119.out | refine below_set ?_ GE120.out) | exact HB.out)) hb)
      have n3_ := Aside0.mk (hbox)
      have n4_ := Aside0.mk ((by rw [hg]; exact (below_size (by repeat (first | (with_reducible first | exact HB.out | apply below_alloc | apply pw_below_drewN | apply below_drew1 | refine below_set ?_ GE119.out | refine below_set ?_ GE120.out) | exact HB.out))) : w.heap.size ≤ gb122))
      have n5_ := Aside0.mk ((by rw [hg]; exact (below_size (by repeat (first | (with_reducible first | exact HB.out | apply below_alloc | apply pw_below_drewN | apply below_drew1 | refine below_set ?_ GE119.out | refine below_set ?_ GE120.out) | exact HB.out))) : w.heap.size ≤ gb122))
      have n6_ := Aside0.mk ((by rw [hg]; exact Nat.ne_of_lt (blk_lt (g := gb119) (o := .cells #[.int .i64 0, .int .i64 0, .int .i64 0, .int .i64 0, .int .i64 0] 55 (0, 0)) (by (with_reducible repeat (first | refine blk_drewN ?_ _ | refine blk_drew ?_ | refine blk_alloc ?_ _)); exact BK119.out)) : gb119 ≠ gb122))
      have n7_ := Aside0.mk ((by rw [hg]; exact Nat.ne_of_gt (blk_lt (g := gb119) (o := .cells #[.int .i64 0, .int .i64 0, .int .i64 0, .int .i64 0, .int .i64 0] 55 (0, 0)) (by (with_reducible repeat (first | refine blk_drewN ?_ _ | refine blk_drew ?_ | refine blk_alloc ?_ _)); exact BK119.out)) : gb122 ≠ gb119))
      have n8_ := Aside0.mk ((by rw [hg]; exact Nat.ne_of_lt (blk_lt (g := gb120) (o := .cells #[.int .i64 ji9, .int .i64 0, .int .i64 0, .int .i64 0, .int .i64 0] 55 (0, 0)) (by (with_reducible repeat (first | refine blk_drewN ?_ _ | refine blk_drew ?_ | refine blk_alloc ?_ _)); exact BK120.out)) : gb120 ≠ gb122))
      have n9_ := Aside0.mk ((by rw [hg]; exact Nat.ne_of_gt (blk_lt (g := gb120) (o := .cells #[.int .i64 ji9, .int .i64 0, .int .i64 0, .int .i64 0, .int .i64 0] 55 (0, 0)) (by (with_reducible repeat (first | refine blk_drewN ?_ _ | refine blk_drew ?_ | refine blk_alloc ?_ _)); exact BK120.out)) : gb122 ≠ gb120))
      clear BK119
      clear BK120
      clear HB
      have BK119 := n0_
      have BK120 := n1_
      have HB := n2_
      have BK122 := n3_
      have GW122 := n4_
      have GE122 := n5_
      have NB119_122 := n6_
      have NB122_119 := n7_
      have NB120_122 := n8_
      have NB122_120 := n9_
      clear n0_ n1_ n2_ n3_ n4_ n5_ n6_ n7_ n8_ n9_
      clear hb hbox hg
      refine hK.out _ _ ⟨(blk_cell BK120.out 0).trans rfl, (blk_cell BK120.out 1).trans rfl, (blk_cell BK120.out 2).trans rfl, (blk_cell BK120.out 3).trans rfl, (blk_cell BK120.out 4).trans rfl⟩ (fun hHeld => ?_)
      clear hK K
      refine norm_ (a' := ?_) ?_ ?_
      rotate_left
      ·
       show Act.put _ (some 5) _ = _
       simp only [Act.put, List.setIfInBounds_toArray, List.set_cons_zero, List.set_cons_succ, i64_w, i32_w]
       rfl
      exact norm_ (by simp only [putAll, Act.put, List.setIfInBounds_toArray, List.set_cons_zero, List.set_cons_succ]) (hCont (gb122) _ ⟨hHeld, (by (with_reducible repeat (first | refine blk_drewN ?_ _ | refine blk_drew ?_ | refine blk_alloc ?_ _)); exact BK119.out), (by (with_reducible repeat (first | refine blk_drewN ?_ _ | refine blk_drew ?_ | refine blk_alloc ?_ _)); exact BK120.out), (by (with_reducible repeat (first | refine blk_drewN ?_ _ | refine blk_drew ?_ | refine blk_alloc ?_ _)); exact BK122.out), GW122.out, GE122.out, NB119_122.out, NB122_119.out, NB120_122.out, NB122_120.out, (by repeat (first | (with_reducible first | exact HB.out | apply below_alloc | apply pw_below_drewN | apply below_drew1 | refine below_set ?_ GE119.out | refine below_set ?_ GE120.out | refine below_set ?_ GE122.out) | exact HB.out))⟩)
     ·
      skip
      refine box_step ?hg (N := 5) ?hd (cs := #[.bool false, .bool false, .bool false, .int .i64 0, .bool false]) (t := 83) ?hr ?_; (case hd => rfl); (case hg => rfl); (case hr => first | (go_simp; done) | (go_simp; rfl))
      intro gb122 hg w19 hbox hb
      have n0_ := Aside0.mk (blk_below (g := gb119) (o := .cells #[.int .i64 0, .int .i64 0, .int .i64 0, .int .i64 0, .int .i64 0] 55 (0, 0)) (by (with_reducible repeat (first | refine blk_drewN ?_ _ | refine blk_drew ?_ | refine blk_alloc ?_ _)); exact BK119.out) hb)
      have n1_ := Aside0.mk (blk_below (g := gb120) (o := .cells #[.int .i64 ji9, .int .i64 0, .int .i64 0, .int .i64 0, .int .i64 0] 55 (0, 0)) (by (with_reducible repeat (first | refine blk_drewN ?_ _ | refine blk_drew ?_ | refine blk_alloc ?_ _)); exact BK120.out) hb)
      have n2_ := Aside0.mk (below_step (by repeat (first | (with_reducible first | exact HB.out | apply below_alloc | apply pw_below_drewN | apply below_drew1 | refine below_set ?_ GE119.out | refine below_set ?_ GE120.out) | exact HB.out)) hb)
      have n3_ := Aside0.mk (hbox)
      have n4_ := Aside0.mk ((by rw [hg]; exact (below_size (by repeat (first | (with_reducible first | exact HB.out | apply below_alloc | apply pw_below_drewN | apply below_drew1 | refine below_set ?_ GE119.out | refine below_set ?_ GE120.out) | exact HB.out))) : w.heap.size ≤ gb122))
      have n5_ := Aside0.mk ((by rw [hg]; exact (below_size (by repeat (first | (with_reducible first | exact HB.out | apply below_alloc | apply pw_below_drewN | apply below_drew1 | refine below_set ?_ GE119.out | refine below_set ?_ GE120.out) | exact HB.out))) : w.heap.size ≤ gb122))
      have n6_ := Aside0.mk ((by rw [hg]; exact Nat.ne_of_lt (blk_lt (g := gb119) (o := .cells #[.int .i64 0, .int .i64 0, .int .i64 0, .int .i64 0, .int .i64 0] 55 (0, 0)) (by (with_reducible repeat (first | refine blk_drewN ?_ _ | refine blk_drew ?_ | refine blk_alloc ?_ _)); exact BK119.out)) : gb119 ≠ gb122))
      have n7_ := Aside0.mk ((by rw [hg]; exact Nat.ne_of_gt (blk_lt (g := gb119) (o := .cells #[.int .i64 0, .int .i64 0, .int .i64 0, .int .i64 0, .int .i64 0] 55 (0, 0)) (by (with_reducible repeat (first | refine blk_drewN ?_ _ | refine blk_drew ?_ | refine blk_alloc ?_ _)); exact BK119.out)) : gb122 ≠ gb119))
      have n8_ := Aside0.mk ((by rw [hg]; exact Nat.ne_of_lt (blk_lt (g := gb120) (o := .cells #[.int .i64 ji9, .int .i64 0, .int .i64 0, .int .i64 0, .int .i64 0] 55 (0, 0)) (by (with_reducible repeat (first | refine blk_drewN ?_ _ | refine blk_drew ?_ | refine blk_alloc ?_ _)); exact BK120.out)) : gb120 ≠ gb122))
      have n9_ := Aside0.mk ((by rw [hg]; exact Nat.ne_of_gt (blk_lt (g := gb120) (o := .cells #[.int .i64 ji9, .int .i64 0, .int .i64 0, .int .i64 0, .int .i64 0] 55 (0, 0)) (by (with_reducible repeat (first | refine blk_drewN ?_ _ | refine blk_drew ?_ | refine blk_alloc ?_ _)); exact BK120.out)) : gb122 ≠ gb120))
      clear BK119
      clear BK120
      clear HB
      have BK119 := n0_
      have BK120 := n1_
      have HB := n2_
      have BK122 := n3_
      have GW122 := n4_
      have GE122 := n5_
      have NB119_122 := n6_
      have NB122_119 := n7_
      have NB120_122 := n8_
      have NB122_120 := n9_
      clear n0_ n1_ n2_ n3_ n4_ n5_ n6_ n7_ n8_ n9_
      clear hb hbox hg
      refine hK.out _ _ ⟨(blk_cell BK120.out 0).trans rfl, (blk_cell BK120.out 1).trans rfl, (blk_cell BK120.out 2).trans rfl, (blk_cell BK120.out 3).trans rfl, (blk_cell BK120.out 4).trans rfl⟩ (fun hHeld => ?_)
      clear hK K
      refine norm_ (a' := ?_) ?_ ?_
      rotate_left
      ·
       show Act.put _ (some 5) _ = _
       simp only [Act.put, List.setIfInBounds_toArray, List.set_cons_zero, List.set_cons_succ, i64_w, i32_w]
       rfl
      refine one_ (i := 0) (N := some 16) #[true, true, true, false, true, false] rfl rfl (by kernel_rfl) (by decide) (fun K hK => ?_)
      refine goes_ Try.func55 (by kernel_rfl) rfl #[] (by rfl) rfl rfl (by (try simp only [List.map_toArray, List.map_cons, List.map_nil]); first | done | rfl | (simp only [List.length_drop, List.length_take]; rfl)) ?_
      with_reducible refine (code_forms.calls  t121 _ A8.out).mono ?_
      rintro e w20 ⟨rfl, hb⟩
      refine ⟨_, rfl, ?_⟩
      have n0_ := Aside0.mk (blk_below (g := gb119) (o := .cells #[.int .i64 0, .int .i64 0, .int .i64 0, .int .i64 0, .int .i64 0] 55 (0, 0)) (by (with_reducible repeat (first | refine blk_drewN ?_ _ | refine blk_drew ?_ | refine blk_alloc ?_ _)); exact BK119.out) hb)
      have n1_ := Aside0.mk (blk_below (g := gb120) (o := .cells #[.int .i64 ji9, .int .i64 0, .int .i64 0, .int .i64 0, .int .i64 0] 55 (0, 0)) (by (with_reducible repeat (first | refine blk_drewN ?_ _ | refine blk_drew ?_ | refine blk_alloc ?_ _)); exact BK120.out) hb)
      have n2_ := Aside0.mk (blk_below (g := gb122) (o := .cells #[.bool false, .bool false, .bool false, .int .i64 0, .bool false] 83 (0, 0)) (by (with_reducible repeat (first | refine blk_drewN ?_ _ | refine blk_drew ?_ | refine blk_alloc ?_ _)); exact BK122.out) hb)
      have n3_ := Aside0.mk (below_step (by repeat (first | (with_reducible first | exact HB.out | apply below_alloc | apply pw_below_drewN | apply below_drew1 | refine below_set ?_ GE119.out | refine below_set ?_ GE120.out | refine below_set ?_ GE122.out) | exact HB.out)) hb)
      clear BK119
      clear BK120
      clear BK122
      clear HB
      have BK119 := n0_
      have BK120 := n1_
      have BK122 := n2_
      have HB := n3_
      clear n0_ n1_ n2_ n3_
      (try clear hb)
      (try clear hb2)
      (try clear hk)
      (try clear hi)
      refine hK.out _ _ ⟨(blk_cell BK120.out 0).trans rfl, (blk_cell BK120.out 1).trans rfl, (blk_cell BK120.out 2).trans rfl, (blk_cell BK120.out 3).trans rfl, (blk_cell BK120.out 4).trans rfl⟩ (fun hHeld => ?_)
      clear hK K
      refine norm_ (a' := ?_) ?_ ?_
      rotate_left
      ·
       show Act.put _ (some 16) _ = _
       simp only [Act.put, List.setIfInBounds_toArray, List.set_cons_zero, List.set_cons_succ, i64_w, i32_w]
       rfl
      refine take_ (i := 3) (N := some 19) (v := ?_) (a' := ?_) #[true, true, true, true, true, false] rfl rfl (by kernel_rfl) (fun _ _ _ h => h) (Or.inl ⟨by rfl, ?_⟩) hHeld ?_ ?_
      rotate_left
      ·
       rintro w' ⟨s0, s1, s2, s3, s4⟩
       go_simp
       with_reducible rfl
      rotate_left
      ·
       simp only [Act.put, List.setIfInBounds_toArray, List.set_cons_zero, List.set_cons_succ, i64_w, i32_w]
       rfl
      exact norm_ (by simp only [putAll, Act.put, List.setIfInBounds_toArray, List.set_cons_zero, List.set_cons_succ]) (hCont (gb122) _ ⟨hHeld, (by (with_reducible repeat (first | refine blk_drewN ?_ _ | refine blk_drew ?_ | refine blk_alloc ?_ _)); exact BK119.out), (by (with_reducible repeat (first | refine blk_drewN ?_ _ | refine blk_drew ?_ | refine blk_alloc ?_ _)); exact BK120.out), (by (with_reducible repeat (first | refine blk_drewN ?_ _ | refine blk_drew ?_ | refine blk_alloc ?_ _)); exact BK122.out), GW122.out, GE122.out, NB119_122.out, NB122_119.out, NB120_122.out, NB122_120.out, (by repeat (first | (with_reducible first | exact HB.out | apply below_alloc | apply pw_below_drewN | apply below_drew1 | refine below_set ?_ GE119.out | refine below_set ?_ GE120.out | refine below_set ?_ GE122.out) | exact HB.out))⟩)
    rintro gb122 w21 ⟨hS_, h0_, h1_, h2_, h3_, h4_, h5_, h6_, h7_, h8_, h9_⟩
    have n0_ : Aside0 (w21.heap[gb119]? = some (.cells #[.int .i64 0, .int .i64 0, .int .i64 0, .int .i64 0, .int .i64 0] 55 (0, 0))) := ⟨h0_⟩
    have n1_ : Aside0 (w21.heap[gb120]? = some (.cells #[.int .i64 ji9, .int .i64 0, .int .i64 0, .int .i64 0, .int .i64 0] 55 (0, 0))) := ⟨h1_⟩
    have n2_ : Aside0 (w21.heap[gb122]? = some (.cells #[.bool false, .bool false, .bool false, .int .i64 0, .bool false] 83 (0, 0))) := ⟨h2_⟩
    have n3_ : Aside0 (w.heap.size ≤ gb122) := ⟨h3_⟩
    have n4_ : Aside0 (w.heap.size ≤ gb122) := ⟨h4_⟩
    have n5_ : Aside0 (gb119 ≠ gb122) := ⟨h5_⟩
    have n6_ : Aside0 (gb122 ≠ gb119) := ⟨h6_⟩
    have n7_ : Aside0 (gb120 ≠ gb122) := ⟨h7_⟩
    have n8_ : Aside0 (gb122 ≠ gb120) := ⟨h8_⟩
    have n9_ : Aside0 (Below w.heap.size w w21) := ⟨h9_⟩
    clear BK119
    clear BK120
    clear HB
    clear h0_ h1_ h2_ h3_ h4_ h5_ h6_ h7_ h8_ h9_
    have BK119 := n0_
    have BK120 := n1_
    have BK122 := n2_
    have GW122 := n3_
    have GE122 := n4_
    have NB119_122 := n5_
    have NB122_119 := n6_
    have NB120_122 := n7_
    have NB122_120 := n8_
    have HB := n9_
    clear n0_ n1_ n2_ n3_ n4_ n5_ n6_ n7_ n8_ n9_
    have hHeld : w21.cell? ⟨gb120, 0, none⟩ = some (.int .i64 ji9) ∧ w21.cell? ⟨gb120, 1, none⟩ = some (.int .i64 0) ∧ w21.cell? ⟨gb120, 2, none⟩ = some (.int .i64 0) ∧ w21.cell? ⟨gb120, 3, none⟩ = some (.int .i64 0) ∧ w21.cell? ⟨gb120, 4, none⟩ = some (.int .i64 0) := hS_
    refine norm_ (a' := ?_) ?_ ?_
    rotate_left
    ·
     simp only [putAll, Act.put, List.setIfInBounds_toArray, List.set_cons_zero, List.set_cons_succ]
     rfl
    refine one_ (i := 5) (N := none) #[true, true, true, true, true, true] rfl rfl (by kernel_rfl) (by decide) (fun K hK => ?_)
    have hs22 : w21.cell? ⟨gb122, 0, none⟩ = some (.bool false) := (blk_cell BK122.out 0).trans rfl
    have hfs22 := blk_frozen BK122.out 0
    have hns22_0 := NB119_122.out
    have hns22_1 := NB120_122.out
    have hms22_0 := NB122_119.out
    have hms22_1 := NB122_120.out
    have hs23 : w21.cell? ⟨gb122, 1, none⟩ = some (.bool false) := (blk_cell BK122.out 1).trans rfl
    have hfs23 := blk_frozen BK122.out 1
    have hns23_0 := NB119_122.out
    have hns23_1 := NB120_122.out
    have hms23_0 := NB122_119.out
    have hms23_1 := NB122_120.out
    have hs24 : w21.cell? ⟨gb122, 2, none⟩ = some (.bool false) := (blk_cell BK122.out 2).trans rfl
    have hfs24 := blk_frozen BK122.out 2
    have hns24_0 := NB119_122.out
    have hns24_1 := NB120_122.out
    have hms24_0 := NB122_119.out
    have hms24_1 := NB122_120.out
    have hs25 : w21.cell? ⟨gb122, 3, none⟩ = some (.int .i64 0) := (blk_cell BK122.out 3).trans rfl
    have hfs25 := blk_frozen BK122.out 3
    have hns25_0 := NB119_122.out
    have hns25_1 := NB120_122.out
    have hms25_0 := NB122_119.out
    have hms25_1 := NB122_120.out
    have hs26 : w21.cell? ⟨gb122, 4, none⟩ = some (.bool false) := (blk_cell BK122.out 4).trans rfl
    have hfs26 := blk_frozen BK122.out 4
    have hns26_0 := NB119_122.out
    have hns26_1 := NB120_122.out
    have hms26_0 := NB122_119.out
    have hms26_1 := NB122_120.out
    refine skip_ (w1 := ?_) (by rfl) rfl ?_ ?_
    rotate_left
    ·
     go_simp
     rfl
    refine hK.out _ _ ⟨((cell_far (p := ⟨gb122, _, none⟩) NB120_122.out _).trans (((cell_far (p := ⟨gb122, _, none⟩) NB120_122.out _).trans (((cell_far (p := ⟨gb122, _, none⟩) NB120_122.out _).trans (((cell_far (p := ⟨gb122, _, none⟩) NB120_122.out _).trans (((cell_far (p := ⟨gb122, _, none⟩) NB120_122.out _).trans (hHeld.1)))))))))), ((cell_far (p := ⟨gb122, _, none⟩) NB120_122.out _).trans (((cell_far (p := ⟨gb122, _, none⟩) NB120_122.out _).trans (((cell_far (p := ⟨gb122, _, none⟩) NB120_122.out _).trans (((cell_far (p := ⟨gb122, _, none⟩) NB120_122.out _).trans (((cell_far (p := ⟨gb122, _, none⟩) NB120_122.out _).trans (hHeld.2.1)))))))))), ((cell_far (p := ⟨gb122, _, none⟩) NB120_122.out _).trans (((cell_far (p := ⟨gb122, _, none⟩) NB120_122.out _).trans (((cell_far (p := ⟨gb122, _, none⟩) NB120_122.out _).trans (((cell_far (p := ⟨gb122, _, none⟩) NB120_122.out _).trans (((cell_far (p := ⟨gb122, _, none⟩) NB120_122.out _).trans (hHeld.2.2.1)))))))))), ((cell_far (p := ⟨gb122, _, none⟩) NB120_122.out _).trans (((cell_far (p := ⟨gb122, _, none⟩) NB120_122.out _).trans (((cell_far (p := ⟨gb122, _, none⟩) NB120_122.out _).trans (((cell_far (p := ⟨gb122, _, none⟩) NB120_122.out _).trans (((cell_far (p := ⟨gb122, _, none⟩) NB120_122.out _).trans (hHeld.2.2.2.1)))))))))), ((cell_far (p := ⟨gb122, _, none⟩) NB120_122.out _).trans (((cell_far (p := ⟨gb122, _, none⟩) NB120_122.out _).trans (((cell_far (p := ⟨gb122, _, none⟩) NB120_122.out _).trans (((cell_far (p := ⟨gb122, _, none⟩) NB120_122.out _).trans (((cell_far (p := ⟨gb122, _, none⟩) NB120_122.out _).trans (hHeld.2.2.2.2))))))))))⟩ (fun hHeld => ?_)
    clear hK K
    refine done_ (by kernel_rfl) ?_
    have hnb27 := NB122_119.out
    have hnc27 := NB119_122.out
    have hnb28 := NB122_120.out
    have hnc28 := NB120_122.out
    have hcz29_0 : w21.cell? ⟨gb122, 0, none⟩ = some (.bool false) := (blk_cell BK122.out 0).trans rfl
    have hcz29_1 : w21.cell? ⟨gb122, 1, none⟩ = some (.bool false) := (blk_cell BK122.out 1).trans rfl
    have hcz29_2 : w21.cell? ⟨gb122, 2, none⟩ = some (.bool false) := (blk_cell BK122.out 2).trans rfl
    have hcz29_3 : w21.cell? ⟨gb122, 3, none⟩ = some (.int .i64 0) := (blk_cell BK122.out 3).trans rfl
    have hcz29_4 : w21.cell? ⟨gb122, 4, none⟩ = some (.bool false) := (blk_cell BK122.out 4).trans rfl
    have hfz29_0 := blk_frozen BK122.out 0
    have hfz29_1 := blk_frozen BK122.out 1
    have hfz29_2 := blk_frozen BK122.out 2
    have hfz29_3 := blk_frozen BK122.out 3
    have hfz29_4 := blk_frozen BK122.out 4
    go_upto_if 22 with (fail)
    go_cut [] (fun wc => ∃ (kq : Nat) (x121001_11 : Int) (x121002_11 : Int), Aside0 (code_Get.j0 kq a0 ji9 x121001_11 x121002_11 0 0 (form_a (ji9)) (form_b (ji9)) (form_c (ji9)) (form_w (ji9)) (form_p (ji9)) = some (r1, r2, r3, r4, r5, r6)) ∧ Aside0 (kq ≤ k) ∧ Aside0 (wc.heap[gb119]? = some (.cells #[.int .i64 0, .int .i64 0, .int .i64 0, .int .i64 0, .int .i64 0] 55 (0, 0))) ∧ Aside0 (wc.heap[gb120]? = some (.cells #[.int .i64 ji9, .int .i64 x121001_11, .int .i64 x121002_11, .int .i64 0, .int .i64 0] 55 (0, 0))) ∧ Aside0 (wc.heap[gb122]? = some (.cells #[.bool (form_a (ji9)), .bool (form_b (ji9)), .bool (form_c (ji9)), .int .i64 (form_w (ji9)), .bool (form_p (ji9))] 83 (0, 0))) ∧ Aside0 (Below w.heap.size w wc))
    case first =>
     have H := HC12.out
     clear HC12
     by_cases c30 : (form_w (ji9)) < 24
     ·
      rw [if_pos c30] at H
      have c30b0 : decide ((form_w (ji9)) < 24) = true := decide_eq_true c30
      clear c30
      (first | (generalize hb_ : decide ((form_w (ji9)) < 24) = bb_ at *; subst c30b0; have c30b0 := hb_; clear hb_) | rw [c30b0] | (simp only [i64_w, i32_w]; rw [c30b0]) | skip)
      have H' := Aside0.mk H
      clear H
      have hnb31 := NB120_119.out
      have hnc31 := NB119_120.out
      have hnb32 := NB120_122.out
      have hnc32 := NB122_120.out
      have hcz33_0 : w21.cell? ⟨gb120, 0, none⟩ = some (.int .i64 ji9) := (blk_cell BK120.out 0).trans rfl
      have hcz33_1 : w21.cell? ⟨gb120, 1, none⟩ = some (.int .i64 0) := (blk_cell BK120.out 1).trans rfl
      have hcz33_2 : w21.cell? ⟨gb120, 2, none⟩ = some (.int .i64 0) := (blk_cell BK120.out 2).trans rfl
      have hcz33_3 : w21.cell? ⟨gb120, 3, none⟩ = some (.int .i64 0) := (blk_cell BK120.out 3).trans rfl
      have hcz33_4 : w21.cell? ⟨gb120, 4, none⟩ = some (.int .i64 0) := (blk_cell BK120.out 4).trans rfl
      have hfz33_0 := blk_frozen BK120.out 0
      have hfz33_1 := blk_frozen BK120.out 1
      have hfz33_2 := blk_frozen BK120.out 2
      have hfz33_3 := blk_frozen BK120.out 3
      have hfz33_4 := blk_frozen BK120.out 4
      go_wp2
      go_meet
      case rel => exact ⟨_, (wrap64 (Go.bits .and .u32 (a0 / 1048576) 15)), (wrap64 (Go.bits .and .u32 (a0 / 65536) 15)), H', ⟨by first | omega | exact Nat.le_refl _⟩, ⟨by (with_reducible repeat (first | refine blk_drewN ?_ _ | refine blk_drew ?_ | refine blk_alloc ?_ _)); refine blk_far ?_ NB119_120.out _; (with_reducible repeat (first | refine blk_drewN ?_ _ | refine blk_drew ?_ | refine blk_alloc ?_ _)); refine blk_far ?_ NB119_120.out _; (with_reducible repeat (first | refine blk_drewN ?_ _ | refine blk_drew ?_ | refine blk_alloc ?_ _)); refine blk_far ?_ NB119_122.out _; (with_reducible repeat (first | refine blk_drewN ?_ _ | refine blk_drew ?_ | refine blk_alloc ?_ _)); refine blk_far ?_ NB119_122.out _; (with_reducible repeat (first | refine blk_drewN ?_ _ | refine blk_drew ?_ | refine blk_alloc ?_ _)); refine blk_far ?_ NB119_122.out _; (with_reducible repeat (first | refine blk_drewN ?_ _ | refine blk_drew ?_ | refine blk_alloc ?_ _)); refine blk_far ?_ NB119_122.out _; (with_reducible repeat (first | refine blk_drewN ?_ _ | refine blk_drew ?_ | refine blk_alloc ?_ _)); refine blk_far ?_ NB119_122.out _; (with_reducible repeat (first | refine blk_drewN ?_ _ | refine blk_drew ?_ | refine blk_alloc ?_ _)); exact BK119.out⟩, ⟨by (with_reducible repeat (first | refine blk_drewN ?_ _ | refine blk_drew ?_ | refine blk_alloc ?_ _)); refine blk_put (cs := #[.int .i64 ji9, .int .i64 (wrap64 (Go.bits .and .u32 (a0 / 1048576) 15)), .int .i64 0, .int .i64 0, .int .i64 0]) ?_ 2 _ rfl; (with_reducible repeat (first | refine blk_drewN ?_ _ | refine blk_drew ?_ | refine blk_alloc ?_ _)); refine blk_put (cs := #[.int .i64 ji9, .int .i64 0, .int .i64 0, .int .i64 0, .int .i64 0]) ?_ 1 _ rfl; (with_reducible repeat (first | refine blk_drewN ?_ _ | refine blk_drew ?_ | refine blk_alloc ?_ _)); refine blk_far ?_ NB120_122.out _; (with_reducible repeat (first | refine blk_drewN ?_ _ | refine blk_drew ?_ | refine blk_alloc ?_ _)); refine blk_far ?_ NB120_122.out _; (with_reducible repeat (first | refine blk_drewN ?_ _ | refine blk_drew ?_ | refine blk_alloc ?_ _)); refine blk_far ?_ NB120_122.out _; (with_reducible repeat (first | refine blk_drewN ?_ _ | refine blk_drew ?_ | refine blk_alloc ?_ _)); refine blk_far ?_ NB120_122.out _; (with_reducible repeat (first | refine blk_drewN ?_ _ | refine blk_drew ?_ | refine blk_alloc ?_ _)); refine blk_far ?_ NB120_122.out _; (with_reducible repeat (first | refine blk_drewN ?_ _ | refine blk_drew ?_ | refine blk_alloc ?_ _)); exact BK120.out⟩, ⟨by (with_reducible repeat (first | refine blk_drewN ?_ _ | refine blk_drew ?_ | refine blk_alloc ?_ _)); refine blk_far ?_ NB122_120.out _; (with_reducible repeat (first | refine blk_drewN ?_ _ | refine blk_drew ?_ | refine blk_alloc ?_ _)); refine blk_far ?_ NB122_120.out _; (with_reducible repeat (first | refine blk_drewN ?_ _ | refine blk_drew ?_ | refine blk_alloc ?_ _)); refine blk_put (cs := #[.bool (form_a (ji9)), .bool (form_b (ji9)), .bool (form_c (ji9)), .int .i64 (form_w (ji9)), .bool false]) ?_ 4 _ rfl; (with_reducible repeat (first | refine blk_drewN ?_ _ | refine blk_drew ?_ | refine blk_alloc ?_ _)); refine blk_put (cs := #[.bool (form_a (ji9)), .bool (form_b (ji9)), .bool (form_c (ji9)), .int .i64 0, .bool false]) ?_ 3 _ rfl; (with_reducible repeat (first | refine blk_drewN ?_ _ | refine blk_drew ?_ | refine blk_alloc ?_ _)); refine blk_put (cs := #[.bool (form_a (ji9)), .bool (form_b (ji9)), .bool false, .int .i64 0, .bool false]) ?_ 2 _ rfl; (with_reducible repeat (first | refine blk_drewN ?_ _ | refine blk_drew ?_ | refine blk_alloc ?_ _)); refine blk_put (cs := #[.bool (form_a (ji9)), .bool false, .bool false, .int .i64 0, .bool false]) ?_ 1 _ rfl; (with_reducible repeat (first | refine blk_drewN ?_ _ | refine blk_drew ?_ | refine blk_alloc ?_ _)); refine blk_put (cs := #[.bool false, .bool false, .bool false, .int .i64 0, .bool false]) ?_ 0 _ rfl; (with_reducible repeat (first | refine blk_drewN ?_ _ | refine blk_drew ?_ | refine blk_alloc ?_ _)); exact BK122.out⟩, ⟨by repeat (first | (with_reducible first | exact HB.out | apply below_alloc | apply pw_below_drewN | apply below_drew1 | refine below_set ?_ GE119.out | refine below_set ?_ GE120.out | refine below_set ?_ GE122.out) | exact HB.out)⟩⟩
     ·
      rw [if_neg c30] at H
      have c30b0 : decide ((form_w (ji9)) < 24) = false := decide_eq_false c30
      clear c30
      (first | (generalize hb_ : decide ((form_w (ji9)) < 24) = bb_ at *; subst c30b0; have c30b0 := hb_; clear hb_) | rw [c30b0] | (simp only [i64_w, i32_w]; rw [c30b0]) | skip)
      have H' := Aside0.mk H
      clear H
      go_wp2
      go_meet
      case rel => exact ⟨_, (0), (0), H', ⟨by first | omega | exact Nat.le_refl _⟩, ⟨by (with_reducible repeat (first | refine blk_drewN ?_ _ | refine blk_drew ?_ | refine blk_alloc ?_ _)); refine blk_far ?_ NB119_122.out _; (with_reducible repeat (first | refine blk_drewN ?_ _ | refine blk_drew ?_ | refine blk_alloc ?_ _)); refine blk_far ?_ NB119_122.out _; (with_reducible repeat (first | refine blk_drewN ?_ _ | refine blk_drew ?_ | refine blk_alloc ?_ _)); refine blk_far ?_ NB119_122.out _; (with_reducible repeat (first | refine blk_drewN ?_ _ | refine blk_drew ?_ | refine blk_alloc ?_ _)); refine blk_far ?_ NB119_122.out _; (with_reducible repeat (first | refine blk_drewN ?_ _ | refine blk_drew ?_ | refine blk_alloc ?_ _)); refine blk_far ?_ NB119_122.out _; (with_reducible repeat (first | refine blk_drewN ?_ _ | refine blk_drew ?_ | refine blk_alloc ?_ _)); exact BK119.out⟩, ⟨by (with_reducible repeat (first | refine blk_drewN ?_ _ | refine blk_drew ?_ | refine blk_alloc ?_ _)); refine blk_far ?_ NB120_122.out _; (with_reducible repeat (first | refine blk_drewN ?_ _ | refine blk_drew ?_ | refine blk_alloc ?_ _)); refine blk_far ?_ NB120_122.out _; (with_reducible repeat (first | refine blk_drewN ?_ _ | refine blk_drew ?_ | refine blk_alloc ?_ _)); refine blk_far ?_ NB120_122.out _; (with_reducible repeat (first | refine blk_drewN ?_ _ | refine blk_drew ?_ | refine blk_alloc ?_ _)); refine blk_far ?_ NB120_122.out _; (with_reducible repeat (first | refine blk_drewN ?_ _ | refine blk_drew ?_ | refine blk_alloc ?_ _)); refine blk_far ?_ NB120_122.out _; (with_reducible repeat (first | refine blk_drewN ?_ _ | refine blk_drew ?_ | refine blk_alloc ?_ _)); exact BK120.out⟩, ⟨by (with_reducible repeat (first | refine blk_drewN ?_ _ | refine blk_drew ?_ | refine blk_alloc ?_ _)); refine blk_put (cs := #[.bool (form_a (ji9)), .bool (form_b (ji9)), .bool (form_c (ji9)), .int .i64 (form_w (ji9)), .bool false]) ?_ 4 _ rfl; (with_reducible repeat (first | refine blk_drewN ?_ _ | refine blk_drew ?_ | refine blk_alloc ?_ _)); refine blk_put (cs := #[.bool (form_a (ji9)), .bool (form_b (ji9)), .bool (form_c (ji9)), .int .i64 0, .bool false]) ?_ 3 _ rfl; (with_reducible repeat (first | refine blk_drewN ?_ _ | refine blk_drew ?_ | refine blk_alloc ?_ _)); refine blk_put (cs := #[.bool (form_a (ji9)), .bool (form_b (ji9)), .bool false, .int .i64 0, .bool false]) ?_ 2 _ rfl; (with_reducible repeat (first | refine blk_drewN ?_ _ | refine blk_drew ?_ | refine blk_alloc ?_ _)); refine blk_put (cs := #[.bool (form_a (ji9)), .bool false, .bool false, .int .i64 0, .bool false]) ?_ 1 _ rfl; (with_reducible repeat (first | refine blk_drewN ?_ _ | refine blk_drew ?_ | refine blk_alloc ?_ _)); refine blk_put (cs := #[.bool false, .bool false, .bool false, .int .i64 0, .bool false]) ?_ 0 _ rfl; (with_reducible repeat (first | refine blk_drewN ?_ _ | refine blk_drew ?_ | refine blk_alloc ?_ _)); exact BK122.out⟩, ⟨by repeat (first | (with_reducible first | exact HB.out | apply below_alloc | apply pw_below_drewN | apply below_drew1 | refine below_set ?_ GE119.out | refine below_set ?_ GE120.out | refine below_set ?_ GE122.out) | exact HB.out)⟩⟩
    case rest =>
     clear HC12
     (try clear c1); (try clear c2); (try clear c2b0); (try clear p2); (try clear c3); (try clear c4); (try clear c5); (try clear p6); (try clear c10); (try clear c10b0); (try clear c11); (try clear c11b0); (try clear c15); (try clear c27); (try clear c28); (try clear c30); (try clear c30b0); (try clear c31); (try clear c32); (try clear hcz16_0); (try clear hcz16_1); (try clear hcz16_2); (try clear hcz16_3); (try clear hcz16_4); (try clear hcz29_0); (try clear hcz29_1); (try clear hcz29_2); (try clear hcz29_3); (try clear hcz29_4); (try clear hcz33_0); (try clear hcz33_1); (try clear hcz33_2); (try clear hcz33_3); (try clear hcz33_4); (try clear hcz6_0); (try clear hcz6_1); (try clear hcz6_2); (try clear hcz6_3); (try clear hcz6_4); (try clear hcz7_0); (try clear hcz7_1); (try clear hcz7_2); (try clear hcz7_3); (try clear hcz7_4); (try clear hfz16_0); (try clear hfz16_1); (try clear hfz16_2); (try clear hfz16_3); (try clear hfz16_4); (try clear hfz29_0); (try clear hfz29_1); (try clear hfz29_2); (try clear hfz29_3); (try clear hfz29_4); (try clear hfz33_0); (try clear hfz33_1); (try clear hfz33_2); (try clear hfz33_3); (try clear hfz33_4); (try clear hfz6_0); (try clear hfz6_1); (try clear hfz6_2); (try clear hfz6_3); (try clear hfz6_4); (try clear hfz7_0); (try clear hfz7_1); (try clear hfz7_2); (try clear hfz7_3); (try clear hfz7_4)
     obtain ⟨kq, x121001_11, x121002_11, HA, HJ11, BK119, BK120, BK122, HB⟩ := hcut
     cases kq with
     | zero => exact absurd HA.out (by simp [code_Get.j0])
     | succ kj11 =>
      have H := HA.out
      clear HA
      simp only [code_Get.j0] at H
      by_cases c34 : (form_c (ji9)) = true
      ·
       rw [if_pos c34] at H
       have c34b0 : (form_c (ji9)) = true := c34
       clear c34
       replace H := Option.bind_eq_some_iff.mp H
       obtain ⟨⟨t123, t124⟩, A350, H⟩ := H
       replace H : (if t124 = 0 then (if t123 = a0 then (some (ji9, x121001_11, x121002_11, wrap64 (Go.bits .and .u32 a0 15), 0, 0)) else (some (0, 0, 0, 0, 0, 3))) else (some (0, 0, 0, 0, 0, 3))) = some (r1, r2, r3, r4, r5, r6) := H
       have A35 := Aside0.mk A350
       clear A350
       by_cases c36 : t124 = 0
       ·
        rw [if_pos c36] at H
        have c36b0 : (t124 == 0) = true := beq_iff_eq.mpr c36
        have c36b1 : (t124 != 0) = false := bne_eq_false_iff_eq.mpr c36
        clear c36
        by_cases c37 : t123 = a0
        ·
         rw [if_pos c37] at H
         have c37b0 : (t123 == a0) = true := beq_iff_eq.mpr c37
         have c37b1 : (t123 != a0) = false := bne_eq_false_iff_eq.mpr c37
         clear c37
         simp only [Option.some.injEq, Prod.mk.injEq] at H
         obtain ⟨rfl, rfl, rfl, rfl, rfl, rfl⟩ := H
         have hnb38 := NB122_119.out
         have hnc38 := NB119_122.out
         have hnb39 := NB122_120.out
         have hnc39 := NB120_122.out
         have hcz40_0 : wc.cell? ⟨gb122, 0, none⟩ = some (.bool (form_a (ji9))) := (blk_cell BK122.out 0).trans rfl
         have hcz40_1 : wc.cell? ⟨gb122, 1, none⟩ = some (.bool (form_b (ji9))) := (blk_cell BK122.out 1).trans rfl
         have hcz40_2 : wc.cell? ⟨gb122, 2, none⟩ = some (.bool (form_c (ji9))) := (blk_cell BK122.out 2).trans rfl
         have hcz40_3 : wc.cell? ⟨gb122, 3, none⟩ = some (.int .i64 (form_w (ji9))) := (blk_cell BK122.out 3).trans rfl
         have hcz40_4 : wc.cell? ⟨gb122, 4, none⟩ = some (.bool (form_p (ji9))) := (blk_cell BK122.out 4).trans rfl
         have hfz40_0 := blk_frozen BK122.out 0
         have hfz40_1 := blk_frozen BK122.out 1
         have hfz40_2 := blk_frozen BK122.out 2
         have hfz40_3 := blk_frozen BK122.out 3
         have hfz40_4 := blk_frozen BK122.out 4
         have hnb41 := NB120_119.out
         have hnc41 := NB119_120.out
         have hcz42_0 : wc.cell? ⟨gb120, 0, none⟩ = some (.int .i64 ji9) := (blk_cell BK120.out 0).trans rfl
         have hcz42_1 : wc.cell? ⟨gb120, 1, none⟩ = some (.int .i64 x121001_11) := (blk_cell BK120.out 1).trans rfl
         have hcz42_2 : wc.cell? ⟨gb120, 2, none⟩ = some (.int .i64 x121002_11) := (blk_cell BK120.out 2).trans rfl
         have hcz42_3 : wc.cell? ⟨gb120, 3, none⟩ = some (.int .i64 0) := (blk_cell BK120.out 3).trans rfl
         have hcz42_4 : wc.cell? ⟨gb120, 4, none⟩ = some (.int .i64 0) := (blk_cell BK120.out 4).trans rfl
         have hfz42_0 := blk_frozen BK120.out 0
         have hfz42_1 := blk_frozen BK120.out 1
         have hfz42_2 := blk_frozen BK120.out 2
         have hfz42_3 := blk_frozen BK120.out 3
         have hfz42_4 := blk_frozen BK120.out 4
         go_wp2_with (first | ((with_reducible refine gate_callee (f := 57) rfl ?_); refine goesL_ (some 58) rfl rfl Try.func57 (by kernel_rfl) rfl #[.agg #[.int .i64 ji9, .int .i64 x121001_11, .int .i64 x121002_11, .int .i64 (wrap64 (Go.bits .and .u32 a0 15)), .int .i64 0]] rfl (by (try simp only [List.map_toArray, List.map_cons, List.map_nil]); first | done | (simp only [hji9]; rfl) | rfl | (simp only [List.length_drop, List.length_take]; rfl)) ?_; (with_reducible refine (code_Put.calls kj11 ji9 x121001_11 x121002_11 (wrap64 (Go.bits .and .u32 a0 15)) 0 t123 t124 _ A35.out).mono ?_); rintro e w43 ⟨rfl, hb⟩; refine ⟨_, rfl, ?_⟩; have n0_ := Aside0.mk (blk_below (g := gb119) (o := .cells #[.int .i64 0, .int .i64 0, .int .i64 0, .int .i64 0, .int .i64 0] 55 (0, 0)) (by (with_reducible repeat (first | refine blk_drewN ?_ _ | refine blk_drew ?_ | refine blk_alloc ?_ _)); refine blk_far ?_ NB119_120.out _; (with_reducible repeat (first | refine blk_drewN ?_ _ | refine blk_drew ?_ | refine blk_alloc ?_ _)); exact BK119.out) hb); have n1_ := Aside0.mk (blk_below (g := gb120) (o := .cells #[.int .i64 ji9, .int .i64 x121001_11, .int .i64 x121002_11, .int .i64 (wrap64 (Go.bits .and .u32 a0 15)), .int .i64 0] 55 (0, 0)) (by (with_reducible repeat (first | refine blk_drewN ?_ _ | refine blk_drew ?_ | refine blk_alloc ?_ _)); refine blk_put (cs := #[.int .i64 ji9, .int .i64 x121001_11, .int .i64 x121002_11, .int .i64 0, .int .i64 0]) ?_ 3 _ rfl; (with_reducible repeat (first | refine blk_drewN ?_ _ | refine blk_drew ?_ | refine blk_alloc ?_ _)); exact BK120.out) hb); have n2_ := Aside0.mk (blk_below (g := gb122) (o := .cells #[.bool (form_a (ji9)), .bool (form_b (ji9)), .bool (form_c (ji9)), .int .i64 (form_w (ji9)), .bool (form_p (ji9))] 83 (0, 0)) (by (with_reducible repeat (first | refine blk_drewN ?_ _ | refine blk_drew ?_ | refine blk_alloc ?_ _)); refine blk_far ?_ NB122_120.out _; (with_reducible repeat (first | refine blk_drewN ?_ _ | refine blk_drew ?_ | refine blk_alloc ?_ _)); exact BK122.out) hb); have n3_ := Aside0.mk (below_step (by repeat (first | (with_reducible first | exact HB.out | apply below_alloc | apply pw_below_drewN | apply below_drew1 | refine below_set ?_ GE119.out | refine below_set ?_ GE120.out | refine below_set ?_ GE122.out) | exact HB.out)) hb); clear BK119; clear BK120; clear BK122; clear HB; have BK119 := n0_; have BK120 := n1_; have BK122 := n2_; have HB := n3_; clear n0_ n1_ n2_ n3_; (try clear hb); (try clear hb2); (try clear hk); (try clear hi); have hcz44_0 : w43.cell? ⟨gb120, 0, none⟩ = some (.int .i64 ji9) := (blk_cell BK120.out 0).trans rfl; have hcz44_1 : w43.cell? ⟨gb120, 1, none⟩ = some (.int .i64 x121001_11) := (blk_cell BK120.out 1).trans rfl; have hcz44_2 : w43.cell? ⟨gb120, 2, none⟩ = some (.int .i64 x121002_11) := (blk_cell BK120.out 2).trans rfl; have hcz44_3 : w43.cell? ⟨gb120, 3, none⟩ = some (.int .i64 (wrap64 (Go.bits .and .u32 a0 15))) := (blk_cell BK120.out 3).trans rfl; have hcz44_4 : w43.cell? ⟨gb120, 4, none⟩ = some (.int .i64 0) := (blk_cell BK120.out 4).trans rfl; have hfz44_0 := blk_frozen BK120.out 0; have hfz44_1 := blk_frozen BK120.out 1; have hfz44_2 := blk_frozen BK120.out 2; have hfz44_3 := blk_frozen BK120.out 3; have hfz44_4 := blk_frozen BK120.out 4; have hcz45_0 : w43.cell? ⟨gb119, 0, none⟩ = some (.int .i64 0) := (blk_cell BK119.out 0).trans rfl; have hcz45_1 : w43.cell? ⟨gb119, 1, none⟩ = some (.int .i64 0) := (blk_cell BK119.out 1).trans rfl; have hcz45_2 : w43.cell? ⟨gb119, 2, none⟩ = some (.int .i64 0) := (blk_cell BK119.out 2).trans rfl; have hcz45_3 : w43.cell? ⟨gb119, 3, none⟩ = some (.int .i64 0) := (blk_cell BK119.out 3).trans rfl; have hcz45_4 : w43.cell? ⟨gb119, 4, none⟩ = some (.int .i64 0) := (blk_cell BK119.out 4).trans rfl; have hfz45_0 := blk_frozen BK119.out 0; have hfz45_1 := blk_frozen BK119.out 1; have hfz45_2 := blk_frozen BK119.out 2; have hfz45_3 := blk_frozen BK119.out 3; have hfz45_4 := blk_frozen BK119.out 4))
         refine bodyPost_ret (results_ct rfl _ _ gb119 55 #[.int .i64 ji9, .int .i64 x121001_11, .int .i64 x121002_11, .int .i64 (wrap64 (Go.bits .and .u32 a0 15)), .int .i64 0] (0, 0) _ rfl (by (with_reducible repeat (first | refine blk_drewN ?_ _ | refine blk_drew ?_ | refine blk_alloc ?_ _)); refine blk_put (cs := #[.int .i64 ji9, .int .i64 x121001_11, .int .i64 x121002_11, .int .i64 (wrap64 (Go.bits .and .u32 a0 15)), .int .i64 0]) ?_ 4 _ rfl; (with_reducible repeat (first | refine blk_drewN ?_ _ | refine blk_drew ?_ | refine blk_alloc ?_ _)); refine blk_put (cs := #[.int .i64 ji9, .int .i64 x121001_11, .int .i64 x121002_11, .int .i64 0, .int .i64 0]) ?_ 3 _ rfl; (with_reducible repeat (first | refine blk_drewN ?_ _ | refine blk_drew ?_ | refine blk_alloc ?_ _)); refine blk_put (cs := #[.int .i64 ji9, .int .i64 x121001_11, .int .i64 0, .int .i64 0, .int .i64 0]) ?_ 2 _ rfl; (with_reducible repeat (first | refine blk_drewN ?_ _ | refine blk_drew ?_ | refine blk_alloc ?_ _)); refine blk_put (cs := #[.int .i64 ji9, .int .i64 0, .int .i64 0, .int .i64 0, .int .i64 0]) ?_ 1 _ rfl; (with_reducible repeat (first | refine blk_drewN ?_ _ | refine blk_drew ?_ | refine blk_alloc ?_ _)); refine blk_put (cs := #[.int .i64 0, .int .i64 0, .int .i64 0, .int .i64 0, .int .i64 0]) ?_ 0 _ rfl; (with_reducible repeat (first | refine blk_drewN ?_ _ | refine blk_drew ?_ | refine blk_alloc ?_ _)); exact BK119.out) Try.underlying55 rfl (by kernel_rfl)) rfl ?_
         exact ⟨by first | rfl | (simp [errW_none, errW_some] <;> rfl) | (simp only [← hji9]; first | rfl | (simp [errW_none, errW_some] <;> rfl)) | (simp [*, errW_none, errW_some] <;> rfl), by repeat (first | (with_reducible first | exact HB.out | apply below_alloc | apply pw_below_drewN | apply below_drew1 | refine below_set ?_ GE119.out | refine below_set ?_ GE120.out | refine below_set ?_ GE122.out) | exact HB.out)⟩
        ·
         rw [if_neg c37] at H
         have c37b0 : (t123 == a0) = false := beq_eq_false_iff_ne.mpr c37
         have c37b1 : (t123 != a0) = true := bne_iff_ne.mpr c37
         simp only [Option.some.injEq, Prod.mk.injEq] at H
         obtain ⟨rfl, rfl, rfl, rfl, rfl, rfl⟩ := H
         have hnb46 := NB122_119.out
         have hnc46 := NB119_122.out
         have hnb47 := NB122_120.out
         have hnc47 := NB120_122.out
         have hcz48_0 : wc.cell? ⟨gb122, 0, none⟩ = some (.bool (form_a (ji9))) := (blk_cell BK122.out 0).trans rfl
         have hcz48_1 : wc.cell? ⟨gb122, 1, none⟩ = some (.bool (form_b (ji9))) := (blk_cell BK122.out 1).trans rfl
         have hcz48_2 : wc.cell? ⟨gb122, 2, none⟩ = some (.bool (form_c (ji9))) := (blk_cell BK122.out 2).trans rfl
         have hcz48_3 : wc.cell? ⟨gb122, 3, none⟩ = some (.int .i64 (form_w (ji9))) := (blk_cell BK122.out 3).trans rfl
         have hcz48_4 : wc.cell? ⟨gb122, 4, none⟩ = some (.bool (form_p (ji9))) := (blk_cell BK122.out 4).trans rfl
         have hfz48_0 := blk_frozen BK122.out 0
         have hfz48_1 := blk_frozen BK122.out 1
         have hfz48_2 := blk_frozen BK122.out 2
         have hfz48_3 := blk_frozen BK122.out 3
         have hfz48_4 := blk_frozen BK122.out 4
         have hnb49 := NB120_119.out
         have hnc49 := NB119_120.out
         have hcz50_0 : wc.cell? ⟨gb120, 0, none⟩ = some (.int .i64 ji9) := (blk_cell BK120.out 0).trans rfl
         have hcz50_1 : wc.cell? ⟨gb120, 1, none⟩ = some (.int .i64 x121001_11) := (blk_cell BK120.out 1).trans rfl
         have hcz50_2 : wc.cell? ⟨gb120, 2, none⟩ = some (.int .i64 x121002_11) := (blk_cell BK120.out 2).trans rfl
         have hcz50_3 : wc.cell? ⟨gb120, 3, none⟩ = some (.int .i64 0) := (blk_cell BK120.out 3).trans rfl
         have hcz50_4 : wc.cell? ⟨gb120, 4, none⟩ = some (.int .i64 0) := (blk_cell BK120.out 4).trans rfl
         have hfz50_0 := blk_frozen BK120.out 0
         have hfz50_1 := blk_frozen BK120.out 1
         have hfz50_2 := blk_frozen BK120.out 2
         have hfz50_3 := blk_frozen BK120.out 3
         have hfz50_4 := blk_frozen BK120.out 4
         go_wp2_with (first | ((with_reducible refine gate_callee (f := 57) rfl ?_); refine goesL_ (some 58) rfl rfl Try.func57 (by kernel_rfl) rfl #[.agg #[.int .i64 ji9, .int .i64 x121001_11, .int .i64 x121002_11, .int .i64 (wrap64 (Go.bits .and .u32 a0 15)), .int .i64 0]] rfl (by (try simp only [List.map_toArray, List.map_cons, List.map_nil]); first | done | (simp only [hji9]; rfl) | rfl | (simp only [List.length_drop, List.length_take]; rfl)) ?_; (with_reducible refine (code_Put.calls kj11 ji9 x121001_11 x121002_11 (wrap64 (Go.bits .and .u32 a0 15)) 0 t123 t124 _ A35.out).mono ?_); rintro e w51 ⟨rfl, hb⟩; refine ⟨_, rfl, ?_⟩; have n0_ := Aside0.mk (blk_below (g := gb119) (o := .cells #[.int .i64 0, .int .i64 0, .int .i64 0, .int .i64 0, .int .i64 0] 55 (0, 0)) (by (with_reducible repeat (first | refine blk_drewN ?_ _ | refine blk_drew ?_ | refine blk_alloc ?_ _)); refine blk_far ?_ NB119_120.out _; (with_reducible repeat (first | refine blk_drewN ?_ _ | refine blk_drew ?_ | refine blk_alloc ?_ _)); exact BK119.out) hb); have n1_ := Aside0.mk (blk_below (g := gb120) (o := .cells #[.int .i64 ji9, .int .i64 x121001_11, .int .i64 x121002_11, .int .i64 (wrap64 (Go.bits .and .u32 a0 15)), .int .i64 0] 55 (0, 0)) (by (with_reducible repeat (first | refine blk_drewN ?_ _ | refine blk_drew ?_ | refine blk_alloc ?_ _)); refine blk_put (cs := #[.int .i64 ji9, .int .i64 x121001_11, .int .i64 x121002_11, .int .i64 0, .int .i64 0]) ?_ 3 _ rfl; (with_reducible repeat (first | refine blk_drewN ?_ _ | refine blk_drew ?_ | refine blk_alloc ?_ _)); exact BK120.out) hb); have n2_ := Aside0.mk (blk_below (g := gb122) (o := .cells #[.bool (form_a (ji9)), .bool (form_b (ji9)), .bool (form_c (ji9)), .int .i64 (form_w (ji9)), .bool (form_p (ji9))] 83 (0, 0)) (by (with_reducible repeat (first | refine blk_drewN ?_ _ | refine blk_drew ?_ | refine blk_alloc ?_ _)); refine blk_far ?_ NB122_120.out _; (with_reducible repeat (first | refine blk_drewN ?_ _ | refine blk_drew ?_ | refine blk_alloc ?_ _)); exact BK122.out) hb); have n3_ := Aside0.mk (below_step (by repeat (first | (with_reducible first | exact HB.out | apply below_alloc | apply pw_below_drewN | apply below_drew1 | refine below_set ?_ GE119.out | refine below_set ?_ GE120.out | refine below_set ?_ GE122.out) | exact HB.out)) hb); clear BK119; clear BK120; clear BK122; clear HB; have BK119 := n0_; have BK120 := n1_; have BK122 := n2_; have HB := n3_; clear n0_ n1_ n2_ n3_; (try clear hb); (try clear hb2); (try clear hk); (try clear hi); have hcz52_0 : w51.cell? ⟨gb119, 0, none⟩ = some (.int .i64 0) := (blk_cell BK119.out 0).trans rfl; have hcz52_1 : w51.cell? ⟨gb119, 1, none⟩ = some (.int .i64 0) := (blk_cell BK119.out 1).trans rfl; have hcz52_2 : w51.cell? ⟨gb119, 2, none⟩ = some (.int .i64 0) := (blk_cell BK119.out 2).trans rfl; have hcz52_3 : w51.cell? ⟨gb119, 3, none⟩ = some (.int .i64 0) := (blk_cell BK119.out 3).trans rfl; have hcz52_4 : w51.cell? ⟨gb119, 4, none⟩ = some (.int .i64 0) := (blk_cell BK119.out 4).trans rfl; have hfz52_0 := blk_frozen BK119.out 0; have hfz52_1 := blk_frozen BK119.out 1; have hfz52_2 := blk_frozen BK119.out 2; have hfz52_3 := blk_frozen BK119.out 3; have hfz52_4 := blk_frozen BK119.out 4))
         refine bodyPost_ret (results_ct rfl _ _ gb119 55 #[.int .i64 0, .int .i64 0, .int .i64 0, .int .i64 0, .int .i64 0] (0, 0) _ rfl (by (with_reducible repeat (first | refine blk_drewN ?_ _ | refine blk_drew ?_ | refine blk_alloc ?_ _)); refine blk_put (cs := #[.int .i64 0, .int .i64 0, .int .i64 0, .int .i64 0, .int .i64 0]) ?_ 4 _ rfl; (with_reducible repeat (first | refine blk_drewN ?_ _ | refine blk_drew ?_ | refine blk_alloc ?_ _)); refine blk_put (cs := #[.int .i64 0, .int .i64 0, .int .i64 0, .int .i64 0, .int .i64 0]) ?_ 3 _ rfl; (with_reducible repeat (first | refine blk_drewN ?_ _ | refine blk_drew ?_ | refine blk_alloc ?_ _)); refine blk_put (cs := #[.int .i64 0, .int .i64 0, .int .i64 0, .int .i64 0, .int .i64 0]) ?_ 2 _ rfl; (with_reducible repeat (first | refine blk_drewN ?_ _ | refine blk_drew ?_ | refine blk_alloc ?_ _)); refine blk_put (cs := #[.int .i64 0, .int .i64 0, .int .i64 0, .int .i64 0, .int .i64 0]) ?_ 1 _ rfl; (with_reducible repeat (first | refine blk_drewN ?_ _ | refine blk_drew ?_ | refine blk_alloc ?_ _)); refine blk_put (cs := #[.int .i64 0, .int .i64 0, .int .i64 0, .int .i64 0, .int .i64 0]) ?_ 0 _ rfl; (with_reducible repeat (first | refine blk_drewN ?_ _ | refine blk_drew ?_ | refine blk_alloc ?_ _)); exact BK119.out) Try.underlying55 rfl (by kernel_rfl)) rfl ?_
         exact ⟨by first | rfl | (simp [errW_none, errW_some] <;> rfl) | (simp only [← hji9]; first | rfl | (simp [errW_none, errW_some] <;> rfl)) | (simp [*, errW_none, errW_some] <;> rfl), by repeat (first | (with_reducible first | exact HB.out | apply below_alloc | apply pw_below_drewN | apply below_drew1 | refine below_set ?_ GE119.out | refine below_set ?_ GE120.out | refine below_set ?_ GE122.out) | exact HB.out)⟩
       ·
        rw [if_neg c36] at H
        have c36b0 : (t124 == 0) = false := beq_eq_false_iff_ne.mpr c36
        have c36b1 : (t124 != 0) = true := bne_iff_ne.mpr c36
        simp only [Option.some.injEq, Prod.mk.injEq] at H
        obtain ⟨rfl, rfl, rfl, rfl, rfl, rfl⟩ := H
        have hnb53 := NB122_119.out
        have hnc53 := NB119_122.out
        have hnb54 := NB122_120.out
        have hnc54 := NB120_122.out
        have hcz55_0 : wc.cell? ⟨gb122, 0, none⟩ = some (.bool (form_a (ji9))) := (blk_cell BK122.out 0).trans rfl
        have hcz55_1 : wc.cell? ⟨gb122, 1, none⟩ = some (.bool (form_b (ji9))) := (blk_cell BK122.out 1).trans rfl
        have hcz55_2 : wc.cell? ⟨gb122, 2, none⟩ = some (.bool (form_c (ji9))) := (blk_cell BK122.out 2).trans rfl
        have hcz55_3 : wc.cell? ⟨gb122, 3, none⟩ = some (.int .i64 (form_w (ji9))) := (blk_cell BK122.out 3).trans rfl
        have hcz55_4 : wc.cell? ⟨gb122, 4, none⟩ = some (.bool (form_p (ji9))) := (blk_cell BK122.out 4).trans rfl
        have hfz55_0 := blk_frozen BK122.out 0
        have hfz55_1 := blk_frozen BK122.out 1
        have hfz55_2 := blk_frozen BK122.out 2
        have hfz55_3 := blk_frozen BK122.out 3
        have hfz55_4 := blk_frozen BK122.out 4
        have hnb56 := NB120_119.out
        have hnc56 := NB119_120.out
        have hcz57_0 : wc.cell? ⟨gb120, 0, none⟩ = some (.int .i64 ji9) := (blk_cell BK120.out 0).trans rfl
        have hcz57_1 : wc.cell? ⟨gb120, 1, none⟩ = some (.int .i64 x121001_11) := (blk_cell BK120.out 1).trans rfl
        have hcz57_2 : wc.cell? ⟨gb120, 2, none⟩ = some (.int .i64 x121002_11) := (blk_cell BK120.out 2).trans rfl
        have hcz57_3 : wc.cell? ⟨gb120, 3, none⟩ = some (.int .i64 0) := (blk_cell BK120.out 3).trans rfl
        have hcz57_4 : wc.cell? ⟨gb120, 4, none⟩ = some (.int .i64 0) := (blk_cell BK120.out 4).trans rfl
        have hfz57_0 := blk_frozen BK120.out 0
        have hfz57_1 := blk_frozen BK120.out 1
        have hfz57_2 := blk_frozen BK120.out 2
        have hfz57_3 := blk_frozen BK120.out 3
        have hfz57_4 := blk_frozen BK120.out 4
        go_wp2_with (first | ((with_reducible refine gate_callee (f := 57) rfl ?_); refine goesL_ (some 58) rfl rfl Try.func57 (by kernel_rfl) rfl #[.agg #[.int .i64 ji9, .int .i64 x121001_11, .int .i64 x121002_11, .int .i64 (wrap64 (Go.bits .and .u32 a0 15)), .int .i64 0]] rfl (by (try simp only [List.map_toArray, List.map_cons, List.map_nil]); first | done | (simp only [hji9]; rfl) | rfl | (simp only [List.length_drop, List.length_take]; rfl)) ?_; (with_reducible refine (code_Put.calls kj11 ji9 x121001_11 x121002_11 (wrap64 (Go.bits .and .u32 a0 15)) 0 t123 t124 _ A35.out).mono ?_); rintro e w58 ⟨rfl, hb⟩; refine ⟨_, rfl, ?_⟩; have n0_ := Aside0.mk (blk_below (g := gb119) (o := .cells #[.int .i64 0, .int .i64 0, .int .i64 0, .int .i64 0, .int .i64 0] 55 (0, 0)) (by (with_reducible repeat (first | refine blk_drewN ?_ _ | refine blk_drew ?_ | refine blk_alloc ?_ _)); refine blk_far ?_ NB119_120.out _; (with_reducible repeat (first | refine blk_drewN ?_ _ | refine blk_drew ?_ | refine blk_alloc ?_ _)); exact BK119.out) hb); have n1_ := Aside0.mk (blk_below (g := gb120) (o := .cells #[.int .i64 ji9, .int .i64 x121001_11, .int .i64 x121002_11, .int .i64 (wrap64 (Go.bits .and .u32 a0 15)), .int .i64 0] 55 (0, 0)) (by (with_reducible repeat (first | refine blk_drewN ?_ _ | refine blk_drew ?_ | refine blk_alloc ?_ _)); refine blk_put (cs := #[.int .i64 ji9, .int .i64 x121001_11, .int .i64 x121002_11, .int .i64 0, .int .i64 0]) ?_ 3 _ rfl; (with_reducible repeat (first | refine blk_drewN ?_ _ | refine blk_drew ?_ | refine blk_alloc ?_ _)); exact BK120.out) hb); have n2_ := Aside0.mk (blk_below (g := gb122) (o := .cells #[.bool (form_a (ji9)), .bool (form_b (ji9)), .bool (form_c (ji9)), .int .i64 (form_w (ji9)), .bool (form_p (ji9))] 83 (0, 0)) (by (with_reducible repeat (first | refine blk_drewN ?_ _ | refine blk_drew ?_ | refine blk_alloc ?_ _)); refine blk_far ?_ NB122_120.out _; (with_reducible repeat (first | refine blk_drewN ?_ _ | refine blk_drew ?_ | refine blk_alloc ?_ _)); exact BK122.out) hb); have n3_ := Aside0.mk (below_step (by repeat (first | (with_reducible first | exact HB.out | apply below_alloc | apply pw_below_drewN | apply below_drew1 | refine below_set ?_ GE119.out | refine below_set ?_ GE120.out | refine below_set ?_ GE122.out) | exact HB.out)) hb); clear BK119; clear BK120; clear BK122; clear HB; have BK119 := n0_; have BK120 := n1_; have BK122 := n2_; have HB := n3_; clear n0_ n1_ n2_ n3_; (try clear hb); (try clear hb2); (try clear hk); (try clear hi); have hcz59_0 : w58.cell? ⟨gb119, 0, none⟩ = some (.int .i64 0) := (blk_cell BK119.out 0).trans rfl; have hcz59_1 : w58.cell? ⟨gb119, 1, none⟩ = some (.int .i64 0) := (blk_cell BK119.out 1).trans rfl; have hcz59_2 : w58.cell? ⟨gb119, 2, none⟩ = some (.int .i64 0) := (blk_cell BK119.out 2).trans rfl; have hcz59_3 : w58.cell? ⟨gb119, 3, none⟩ = some (.int .i64 0) := (blk_cell BK119.out 3).trans rfl; have hcz59_4 : w58.cell? ⟨gb119, 4, none⟩ = some (.int .i64 0) := (blk_cell BK119.out 4).trans rfl; have hfz59_0 := blk_frozen BK119.out 0; have hfz59_1 := blk_frozen BK119.out 1; have hfz59_2 := blk_frozen BK119.out 2; have hfz59_3 := blk_frozen BK119.out 3; have hfz59_4 := blk_frozen BK119.out 4))
        refine bodyPost_ret (results_ct rfl _ _ gb119 55 #[.int .i64 0, .int .i64 0, .int .i64 0, .int .i64 0, .int .i64 0] (0, 0) _ rfl (by (with_reducible repeat (first | refine blk_drewN ?_ _ | refine blk_drew ?_ | refine blk_alloc ?_ _)); refine blk_put (cs := #[.int .i64 0, .int .i64 0, .int .i64 0, .int .i64 0, .int .i64 0]) ?_ 4 _ rfl; (with_reducible repeat (first | refine blk_drewN ?_ _ | refine blk_drew ?_ | refine blk_alloc ?_ _)); refine blk_put (cs := #[.int .i64 0, .int .i64 0, .int .i64 0, .int .i64 0, .int .i64 0]) ?_ 3 _ rfl; (with_reducible repeat (first | refine blk_drewN ?_ _ | refine blk_drew ?_ | refine blk_alloc ?_ _)); refine blk_put (cs := #[.int .i64 0, .int .i64 0, .int .i64 0, .int .i64 0, .int .i64 0]) ?_ 2 _ rfl; (with_reducible repeat (first | refine blk_drewN ?_ _ | refine blk_drew ?_ | refine blk_alloc ?_ _)); refine blk_put (cs := #[.int .i64 0, .int .i64 0, .int .i64 0, .int .i64 0, .int .i64 0]) ?_ 1 _ rfl; (with_reducible repeat (first | refine blk_drewN ?_ _ | refine blk_drew ?_ | refine blk_alloc ?_ _)); refine blk_put (cs := #[.int .i64 0, .int .i64 0, .int .i64 0, .int .i64 0, .int .i64 0]) ?_ 0 _ rfl; (with_reducible repeat (first | refine blk_drewN ?_ _ | refine blk_drew ?_ | refine blk_alloc ?_ _)); exact BK119.out) Try.underlying55 rfl (by kernel_rfl)) rfl ?_
        exact ⟨by first | rfl | (simp [errW_none, errW_some] <;> rfl) | (simp only [← hji9]; first | rfl | (simp [errW_none, errW_some] <;> rfl)) | (simp [*, errW_none, errW_some] <;> rfl), by repeat (first | (with_reducible first | exact HB.out | apply below_alloc | apply pw_below_drewN | apply below_drew1 | refine below_set ?_ GE119.out | refine below_set ?_ GE120.out | refine below_set ?_ GE122.out) | exact HB.out)⟩
      ·
       rw [if_neg c34] at H
       have c34b0 : (form_c (ji9)) = false := by simpa using c34
       clear c34
       by_cases c60 : (form_p (ji9)) = true
       ·
        rw [if_pos c60] at H
        have c60b0 : (form_p (ji9)) = true := c60
        clear c60
        replace H := Option.bind_eq_some_iff.mp H
        obtain ⟨⟨t125, t126⟩, A610, H⟩ := H
        replace H : (if t126 = 0 then (if t125 = a0 then (some (ji9, x121001_11, x121002_11, 0, wrap64 (Go.bits .and .u32 a0 65535), 0)) else (some (0, 0, 0, 0, 0, 3))) else (some (0, 0, 0, 0, 0, 3))) = some (r1, r2, r3, r4, r5, r6) := H
        have A61 := Aside0.mk A610
        clear A610
        by_cases c62 : t126 = 0
        ·
         rw [if_pos c62] at H
         have c62b0 : (t126 == 0) = true := beq_iff_eq.mpr c62
         have c62b1 : (t126 != 0) = false := bne_eq_false_iff_eq.mpr c62
         clear c62
         by_cases c63 : t125 = a0
         ·
          rw [if_pos c63] at H
          have c63b0 : (t125 == a0) = true := beq_iff_eq.mpr c63
          have c63b1 : (t125 != a0) = false := bne_eq_false_iff_eq.mpr c63
          clear c63
          simp only [Option.some.injEq, Prod.mk.injEq] at H
          obtain ⟨rfl, rfl, rfl, rfl, rfl, rfl⟩ := H
          have hnb64 := NB122_119.out
          have hnc64 := NB119_122.out
          have hnb65 := NB122_120.out
          have hnc65 := NB120_122.out
          have hcz66_0 : wc.cell? ⟨gb122, 0, none⟩ = some (.bool (form_a (ji9))) := (blk_cell BK122.out 0).trans rfl
          have hcz66_1 : wc.cell? ⟨gb122, 1, none⟩ = some (.bool (form_b (ji9))) := (blk_cell BK122.out 1).trans rfl
          have hcz66_2 : wc.cell? ⟨gb122, 2, none⟩ = some (.bool (form_c (ji9))) := (blk_cell BK122.out 2).trans rfl
          have hcz66_3 : wc.cell? ⟨gb122, 3, none⟩ = some (.int .i64 (form_w (ji9))) := (blk_cell BK122.out 3).trans rfl
          have hcz66_4 : wc.cell? ⟨gb122, 4, none⟩ = some (.bool (form_p (ji9))) := (blk_cell BK122.out 4).trans rfl
          have hfz66_0 := blk_frozen BK122.out 0
          have hfz66_1 := blk_frozen BK122.out 1
          have hfz66_2 := blk_frozen BK122.out 2
          have hfz66_3 := blk_frozen BK122.out 3
          have hfz66_4 := blk_frozen BK122.out 4
          have hnb67 := NB120_119.out
          have hnc67 := NB119_120.out
          have hcz68_0 : wc.cell? ⟨gb120, 0, none⟩ = some (.int .i64 ji9) := (blk_cell BK120.out 0).trans rfl
          have hcz68_1 : wc.cell? ⟨gb120, 1, none⟩ = some (.int .i64 x121001_11) := (blk_cell BK120.out 1).trans rfl
          have hcz68_2 : wc.cell? ⟨gb120, 2, none⟩ = some (.int .i64 x121002_11) := (blk_cell BK120.out 2).trans rfl
          have hcz68_3 : wc.cell? ⟨gb120, 3, none⟩ = some (.int .i64 0) := (blk_cell BK120.out 3).trans rfl
          have hcz68_4 : wc.cell? ⟨gb120, 4, none⟩ = some (.int .i64 0) := (blk_cell BK120.out 4).trans rfl
          have hfz68_0 := blk_frozen BK120.out 0
          have hfz68_1 := blk_frozen BK120.out 1
          have hfz68_2 := blk_frozen BK120.out 2
          have hfz68_3 := blk_frozen BK120.out 3
          have hfz68_4 := blk_frozen BK120.out 4
          go_wp2_with (first | ((with_reducible refine gate_callee (f := 57) rfl ?_); refine goesL_ (some 58) rfl rfl Try.func57 (by kernel_rfl) rfl #[.agg #[.int .i64 ji9, .int .i64 x121001_11, .int .i64 x121002_11, .int .i64 0, .int .i64 (wrap64 (Go.bits .and .u32 a0 65535))]] rfl (by (try simp only [List.map_toArray, List.map_cons, List.map_nil]); first | done | (simp only [hji9]; rfl) | rfl | (simp only [List.length_drop, List.length_take]; rfl)) ?_; (with_reducible refine (code_Put.calls kj11 ji9 x121001_11 x121002_11 0 (wrap64 (Go.bits .and .u32 a0 65535)) t125 t126 _ A61.out).mono ?_); rintro e w69 ⟨rfl, hb⟩; refine ⟨_, rfl, ?_⟩; have n0_ := Aside0.mk (blk_below (g := gb119) (o := .cells #[.int .i64 0, .int .i64 0, .int .i64 0, .int .i64 0, .int .i64 0] 55 (0, 0)) (by (with_reducible repeat (first | refine blk_drewN ?_ _ | refine blk_drew ?_ | refine blk_alloc ?_ _)); refine blk_far ?_ NB119_120.out _; (with_reducible repeat (first | refine blk_drewN ?_ _ | refine blk_drew ?_ | refine blk_alloc ?_ _)); exact BK119.out) hb); have n1_ := Aside0.mk (blk_below (g := gb120) (o := .cells #[.int .i64 ji9, .int .i64 x121001_11, .int .i64 x121002_11, .int .i64 0, .int .i64 (wrap64 (Go.bits .and .u32 a0 65535))] 55 (0, 0)) (by (with_reducible repeat (first | refine blk_drewN ?_ _ | refine blk_drew ?_ | refine blk_alloc ?_ _)); refine blk_put (cs := #[.int .i64 ji9, .int .i64 x121001_11, .int .i64 x121002_11, .int .i64 0, .int .i64 0]) ?_ 4 _ rfl; (with_reducible repeat (first | refine blk_drewN ?_ _ | refine blk_drew ?_ | refine blk_alloc ?_ _)); exact BK120.out) hb); have n2_ := Aside0.mk (blk_below (g := gb122) (o := .cells #[.bool (form_a (ji9)), .bool (form_b (ji9)), .bool (form_c (ji9)), .int .i64 (form_w (ji9)), .bool (form_p (ji9))] 83 (0, 0)) (by (with_reducible repeat (first | refine blk_drewN ?_ _ | refine blk_drew ?_ | refine blk_alloc ?_ _)); refine blk_far ?_ NB122_120.out _; (with_reducible repeat (first | refine blk_drewN ?_ _ | refine blk_drew ?_ | refine blk_alloc ?_ _)); exact BK122.out) hb); have n3_ := Aside0.mk (below_step (by repeat (first | (with_reducible first | exact HB.out | apply below_alloc | apply pw_below_drewN | apply below_drew1 | refine below_set ?_ GE119.out | refine below_set ?_ GE120.out | refine below_set ?_ GE122.out) | exact HB.out)) hb); clear BK119; clear BK120; clear BK122; clear HB; have BK119 := n0_; have BK120 := n1_; have BK122 := n2_; have HB := n3_; clear n0_ n1_ n2_ n3_; (try clear hb); (try clear hb2); (try clear hk); (try clear hi); have hcz70_0 : w69.cell? ⟨gb120, 0, none⟩ = some (.int .i64 ji9) := (blk_cell BK120.out 0).trans rfl; have hcz70_1 : w69.cell? ⟨gb120, 1, none⟩ = some (.int .i64 x121001_11) := (blk_cell BK120.out 1).trans rfl; have hcz70_2 : w69.cell? ⟨gb120, 2, none⟩ = some (.int .i64 x121002_11) := (blk_cell BK120.out 2).trans rfl; have hcz70_3 : w69.cell? ⟨gb120, 3, none⟩ = some (.int .i64 0) := (blk_cell BK120.out 3).trans rfl; have hcz70_4 : w69.cell? ⟨gb120, 4, none⟩ = some (.int .i64 (wrap64 (Go.bits .and .u32 a0 65535))) := (blk_cell BK120.out 4).trans rfl; have hfz70_0 := blk_frozen BK120.out 0; have hfz70_1 := blk_frozen BK120.out 1; have hfz70_2 := blk_frozen BK120.out 2; have hfz70_3 := blk_frozen BK120.out 3; have hfz70_4 := blk_frozen BK120.out 4; have hcz71_0 : w69.cell? ⟨gb119, 0, none⟩ = some (.int .i64 0) := (blk_cell BK119.out 0).trans rfl; have hcz71_1 : w69.cell? ⟨gb119, 1, none⟩ = some (.int .i64 0) := (blk_cell BK119.out 1).trans rfl; have hcz71_2 : w69.cell? ⟨gb119, 2, none⟩ = some (.int .i64 0) := (blk_cell BK119.out 2).trans rfl; have hcz71_3 : w69.cell? ⟨gb119, 3, none⟩ = some (.int .i64 0) := (blk_cell BK119.out 3).trans rfl; have hcz71_4 : w69.cell? ⟨gb119, 4, none⟩ = some (.int .i64 0) := (blk_cell BK119.out 4).trans rfl; have hfz71_0 := blk_frozen BK119.out 0; have hfz71_1 := blk_frozen BK119.out 1; have hfz71_2 := blk_frozen BK119.out 2; have hfz71_3 := blk_frozen BK119.out 3; have hfz71_4 := blk_frozen BK119.out 4))
          refine bodyPost_ret (results_ct rfl _ _ gb119 55 #[.int .i64 ji9, .int .i64 x121001_11, .int .i64 x121002_11, .int .i64 0, .int .i64 (wrap64 (Go.bits .and .u32 a0 65535))] (0, 0) _ rfl (by (with_reducible repeat (first | refine blk_drewN ?_ _ | refine blk_drew ?_ | refine blk_alloc ?_ _)); refine blk_put (cs := #[.int .i64 ji9, .int .i64 x121001_11, .int .i64 x121002_11, .int .i64 0, .int .i64 0]) ?_ 4 _ rfl; (with_reducible repeat (first | refine blk_drewN ?_ _ | refine blk_drew ?_ | refine blk_alloc ?_ _)); refine blk_put (cs := #[.int .i64 ji9, .int .i64 x121001_11, .int .i64 x121002_11, .int .i64 0, .int .i64 0]) ?_ 3 _ rfl; (with_reducible repeat (first | refine blk_drewN ?_ _ | refine blk_drew ?_ | refine blk_alloc ?_ _)); refine blk_put (cs := #[.int .i64 ji9, .int .i64 x121001_11, .int .i64 0, .int .i64 0, .int .i64 0]) ?_ 2 _ rfl; (with_reducible repeat (first | refine blk_drewN ?_ _ | refine blk_drew ?_ | refine blk_alloc ?_ _)); refine blk_put (cs := #[.int .i64 ji9, .int .i64 0, .int .i64 0, .int .i64 0, .int .i64 0]) ?_ 1 _ rfl; (with_reducible repeat (first | refine blk_drewN ?_ _ | refine blk_drew ?_ | refine blk_alloc ?_ _)); refine blk_put (cs := #[.int .i64 0, .int .i64 0, .int .i64 0, .int .i64 0, .int .i64 0]) ?_ 0 _ rfl; (with_reducible repeat (first | refine blk_drewN ?_ _ | refine blk_drew ?_ | refine blk_alloc ?_ _)); exact BK119.out) Try.underlying55 rfl (by kernel_rfl)) rfl ?_
          exact ⟨by first | rfl | (simp [errW_none, errW_some] <;> rfl) | (simp only [← hji9]; first | rfl | (simp [errW_none, errW_some] <;> rfl)) | (simp [*, errW_none, errW_some] <;> rfl), by repeat (first | (with_reducible first | exact HB.out | apply below_alloc | apply pw_below_drewN | apply below_drew1 | refine below_set ?_ GE119.out | refine below_set ?_ GE120.out | refine below_set ?_ GE122.out) | exact HB.out)⟩
         ·
          rw [if_neg c63] at H
          have c63b0 : (t125 == a0) = false := beq_eq_false_iff_ne.mpr c63
          have c63b1 : (t125 != a0) = true := bne_iff_ne.mpr c63
          simp only [Option.some.injEq, Prod.mk.injEq] at H
          obtain ⟨rfl, rfl, rfl, rfl, rfl, rfl⟩ := H
          have hnb72 := NB122_119.out
          have hnc72 := NB119_122.out
          have hnb73 := NB122_120.out
          have hnc73 := NB120_122.out
          have hcz74_0 : wc.cell? ⟨gb122, 0, none⟩ = some (.bool (form_a (ji9))) := (blk_cell BK122.out 0).trans rfl
          have hcz74_1 : wc.cell? ⟨gb122, 1, none⟩ = some (.bool (form_b (ji9))) := (blk_cell BK122.out 1).trans rfl
          have hcz74_2 : wc.cell? ⟨gb122, 2, none⟩ = some (.bool (form_c (ji9))) := (blk_cell BK122.out 2).trans rfl
          have hcz74_3 : wc.cell? ⟨gb122, 3, none⟩ = some (.int .i64 (form_w (ji9))) := (blk_cell BK122.out 3).trans rfl
          have hcz74_4 : wc.cell? ⟨gb122, 4, none⟩ = some (.bool (form_p (ji9))) := (blk_cell BK122.out 4).trans rfl
          have hfz74_0 := blk_frozen BK122.out 0
          have hfz74_1 := blk_frozen BK122.out 1
          have hfz74_2 := blk_frozen BK122.out 2
          have hfz74_3 := blk_frozen BK122.out 3
          have hfz74_4 := blk_frozen BK122.out 4
          have hnb75 := NB120_119.out
          have hnc75 := NB119_120.out
          have hcz76_0 : wc.cell? ⟨gb120, 0, none⟩ = some (.int .i64 ji9) := (blk_cell BK120.out 0).trans rfl
          have hcz76_1 : wc.cell? ⟨gb120, 1, none⟩ = some (.int .i64 x121001_11) := (blk_cell BK120.out 1).trans rfl
          have hcz76_2 : wc.cell? ⟨gb120, 2, none⟩ = some (.int .i64 x121002_11) := (blk_cell BK120.out 2).trans rfl
          have hcz76_3 : wc.cell? ⟨gb120, 3, none⟩ = some (.int .i64 0) := (blk_cell BK120.out 3).trans rfl
          have hcz76_4 : wc.cell? ⟨gb120, 4, none⟩ = some (.int .i64 0) := (blk_cell BK120.out 4).trans rfl
          have hfz76_0 := blk_frozen BK120.out 0
          have hfz76_1 := blk_frozen BK120.out 1
          have hfz76_2 := blk_frozen BK120.out 2
          have hfz76_3 := blk_frozen BK120.out 3
          have hfz76_4 := blk_frozen BK120.out 4
          go_wp2_with (first | ((with_reducible refine gate_callee (f := 57) rfl ?_); refine goesL_ (some 58) rfl rfl Try.func57 (by kernel_rfl) rfl #[.agg #[.int .i64 ji9, .int .i64 x121001_11, .int .i64 x121002_11, .int .i64 0, .int .i64 (wrap64 (Go.bits .and .u32 a0 65535))]] rfl (by (try simp only [List.map_toArray, List.map_cons, List.map_nil]); first | done | (simp only [hji9]; rfl) | rfl | (simp only [List.length_drop, List.length_take]; rfl)) ?_; (with_reducible refine (code_Put.calls kj11 ji9 x121001_11 x121002_11 0 (wrap64 (Go.bits .and .u32 a0 65535)) t125 t126 _ A61.out).mono ?_); rintro e w77 ⟨rfl, hb⟩; refine ⟨_, rfl, ?_⟩; have n0_ := Aside0.mk (blk_below (g := gb119) (o := .cells #[.int .i64 0, .int .i64 0, .int .i64 0, .int .i64 0, .int .i64 0] 55 (0, 0)) (by (with_reducible repeat (first | refine blk_drewN ?_ _ | refine blk_drew ?_ | refine blk_alloc ?_ _)); refine blk_far ?_ NB119_120.out _; (with_reducible repeat (first | refine blk_drewN ?_ _ | refine blk_drew ?_ | refine blk_alloc ?_ _)); exact BK119.out) hb); have n1_ := Aside0.mk (blk_below (g := gb120) (o := .cells #[.int .i64 ji9, .int .i64 x121001_11, .int .i64 x121002_11, .int .i64 0, .int .i64 (wrap64 (Go.bits .and .u32 a0 65535))] 55 (0, 0)) (by (with_reducible repeat (first | refine blk_drewN ?_ _ | refine blk_drew ?_ | refine blk_alloc ?_ _)); refine blk_put (cs := #[.int .i64 ji9, .int .i64 x121001_11, .int .i64 x121002_11, .int .i64 0, .int .i64 0]) ?_ 4 _ rfl; (with_reducible repeat (first | refine blk_drewN ?_ _ | refine blk_drew ?_ | refine blk_alloc ?_ _)); exact BK120.out) hb); have n2_ := Aside0.mk (blk_below (g := gb122) (o := .cells #[.bool (form_a (ji9)), .bool (form_b (ji9)), .bool (form_c (ji9)), .int .i64 (form_w (ji9)), .bool (form_p (ji9))] 83 (0, 0)) (by (with_reducible repeat (first | refine blk_drewN ?_ _ | refine blk_drew ?_ | refine blk_alloc ?_ _)); refine blk_far ?_ NB122_120.out _; (with_reducible repeat (first | refine blk_drewN ?_ _ | refine blk_drew ?_ | refine blk_alloc ?_ _)); exact BK122.out) hb); have n3_ := Aside0.mk (below_step (by repeat (first | (with_reducible first | exact HB.out | apply below_alloc | apply pw_below_drewN | apply below_drew1 | refine below_set ?_ GE119.out | refine below_set ?_ GE120.out | refine below_set ?_ GE122.out) | exact HB.out)) hb); clear BK119; clear BK120; clear BK122; clear HB; have BK119 := n0_; have BK120 := n1_; have BK122 := n2_; have HB := n3_; clear n0_ n1_ n2_ n3_; (try clear hb); (try clear hb2); (try clear hk); (try clear hi); have hcz78_0 : w77.cell? ⟨gb119, 0, none⟩ = some (.int .i64 0) := (blk_cell BK119.out 0).trans rfl; have hcz78_1 : w77.cell? ⟨gb119, 1, none⟩ = some (.int .i64 0) := (blk_cell BK119.out 1).trans rfl; have hcz78_2 : w77.cell? ⟨gb119, 2, none⟩ = some (.int .i64 0) := (blk_cell BK119.out 2).trans rfl; have hcz78_3 : w77.cell? ⟨gb119, 3, none⟩ = some (.int .i64 0) := (blk_cell BK119.out 3).trans rfl; have hcz78_4 : w77.cell? ⟨gb119, 4, none⟩ = some (.int .i64 0) := (blk_cell BK119.out 4).trans rfl; have hfz78_0 := blk_frozen BK119.out 0; have hfz78_1 := blk_frozen BK119.out 1; have hfz78_2 := blk_frozen BK119.out 2; have hfz78_3 := blk_frozen BK119.out 3; have hfz78_4 := blk_frozen BK119.out 4))
          refine bodyPost_ret (results_ct rfl _ _ gb119 55 #[.int .i64 0, .int .i64 0, .int .i64 0, .int .i64 0, .int .i64 0] (0, 0) _ rfl (by (with_reducible repeat (first | refine blk_drewN ?_ _ | refine blk_drew ?_ | refine blk_alloc ?_ _)); refine blk_put (cs := #[.int .i64 0, .int .i64 0, .int .i64 0, .int .i64 0, .int .i64 0]) ?_ 4 _ rfl; (with_reducible repeat (first | refine blk_drewN ?_ _ | refine blk_drew ?_ | refine blk_alloc ?_ _)); refine blk_put (cs := #[.int .i64 0, .int .i64 0, .int .i64 0, .int .i64 0, .int .i64 0]) ?_ 3 _ rfl; (with_reducible repeat (first | refine blk_drewN ?_ _ | refine blk_drew ?_ | refine blk_alloc ?_ _)); refine blk_put (cs := #[.int .i64 0, .int .i64 0, .int .i64 0, .int .i64 0, .int .i64 0]) ?_ 2 _ rfl; (with_reducible repeat (first | refine blk_drewN ?_ _ | refine blk_drew ?_ | refine blk_alloc ?_ _)); refine blk_put (cs := #[.int .i64 0, .int .i64 0, .int .i64 0, .int .i64 0, .int .i64 0]) ?_ 1 _ rfl; (with_reducible repeat (first | refine blk_drewN ?_ _ | refine blk_drew ?_ | refine blk_alloc ?_ _)); refine blk_put (cs := #[.int .i64 0, .int .i64 0, .int .i64 0, .int .i64 0, .int .i64 0]) ?_ 0 _ rfl; (with_reducible repeat (first | refine blk_drewN ?_ _ | refine blk_drew ?_ | refine blk_alloc ?_ _)); exact BK119.out) Try.underlying55 rfl (by kernel_rfl)) rfl ?_
          exact ⟨by first | rfl | (simp [errW_none, errW_some] <;> rfl) | (simp only [← hji9]; first | rfl | (simp [errW_none, errW_some] <;> rfl)) | (simp [*, errW_none, errW_some] <;> rfl), by repeat (first | (with_reducible first | exact HB.out | apply below_alloc | apply pw_below_drewN | apply below_drew1 | refine below_set ?_ GE119.out | refine below_set ?_ GE120.out | refine below_set ?_ GE122.out) | exact HB.out)⟩
        ·
         rw [if_neg c62] at H
         have c62b0 : (t126 == 0) = false := beq_eq_false_iff_ne.mpr c62
         have c62b1 : (t126 != 0) = true := bne_iff_ne.mpr c62
         simp only [Option.some.injEq, Prod.mk.injEq] at H
         obtain ⟨rfl, rfl, rfl, rfl, rfl, rfl⟩ := H
         have hnb79 := NB122_119.out
         have hnc79 := NB119_122.out
         have hnb80 := NB122_120.out
         have hnc80 := NB120_122.out
         have hcz81_0 : wc.cell? ⟨gb122, 0, none⟩ = some (.bool (form_a (ji9))) := (blk_cell BK122.out 0).trans rfl
         have hcz81_1 : wc.cell? ⟨gb122, 1, none⟩ = some (.bool (form_b (ji9))) := (blk_cell BK122.out 1).trans rfl
         have hcz81_2 : wc.cell? ⟨gb122, 2, none⟩ = some (.bool (form_c (ji9))) := (blk_cell BK122.out 2).trans rfl
         have hcz81_3 : wc.cell? ⟨gb122, 3, none⟩ = some (.int .i64 (form_w (ji9))) := (blk_cell BK122.out 3).trans rfl
         have hcz81_4 : wc.cell? ⟨gb122, 4, none⟩ = some (.bool (form_p (ji9))) := (blk_cell BK122.out 4).trans rfl
         have hfz81_0 := blk_frozen BK122.out 0
         have hfz81_1 := blk_frozen BK122.out 1
         have hfz81_2 := blk_frozen BK122.out 2
         have hfz81_3 := blk_frozen BK122.out 3
         have hfz81_4 := blk_frozen BK122.out 4
         have hnb82 := NB120_119.out
         have hnc82 := NB119_120.out
         have hcz83_0 : wc.cell? ⟨gb120, 0, none⟩ = some (.int .i64 ji9) := (blk_cell BK120.out 0).trans rfl
         have hcz83_1 : wc.cell? ⟨gb120, 1, none⟩ = some (.int .i64 x121001_11) := (blk_cell BK120.out 1).trans rfl
         have hcz83_2 : wc.cell? ⟨gb120, 2, none⟩ = some (.int .i64 x121002_11) := (blk_cell BK120.out 2).trans rfl
         have hcz83_3 : wc.cell? ⟨gb120, 3, none⟩ = some (.int .i64 0) := (blk_cell BK120.out 3).trans rfl
         have hcz83_4 : wc.cell? ⟨gb120, 4, none⟩ = some (.int .i64 0) := (blk_cell BK120.out 4).trans rfl
         have hfz83_0 := blk_frozen BK120.out 0
         have hfz83_1 := blk_frozen BK120.out 1
         have hfz83_2 := blk_frozen BK120.out 2
         have hfz83_3 := blk_frozen BK120.out 3
         have hfz83_4 := blk_frozen BK120.out 4
         go_wp2_with (first | ((with_reducible refine gate_callee (f := 57) rfl ?_); refine goesL_ (some 58) rfl rfl Try.func57 (by kernel_rfl) rfl #[.agg #[.int .i64 ji9, .int .i64 x121001_11, .int .i64 x121002_11, .int .i64 0, .int .i64 (wrap64 (Go.bits .and .u32 a0 65535))]] rfl (by (try simp only [List.map_toArray, List.map_cons, List.map_nil]); first | done | (simp only [hji9]; rfl) | rfl | (simp only [List.length_drop, List.length_take]; rfl)) ?_; (with_reducible refine (code_Put.calls kj11 ji9 x121001_11 x121002_11 0 (wrap64 (Go.bits .and .u32 a0 65535)) t125 t126 _ A61.out).mono ?_); rintro e w84 ⟨rfl, hb⟩; refine ⟨_, rfl, ?_⟩; have n0_ := Aside0.mk (blk_below (g := gb119) (o := .cells #[.int .i64 0, .int .i64 0, .int .i64 0, .int .i64 0, .int .i64 0] 55 (0, 0)) (by (with_reducible repeat (first | refine blk_drewN ?_ _ | refine blk_drew ?_ | refine blk_alloc ?_ _)); refine blk_far ?_ NB119_120.out _; (with_reducible repeat (first | refine blk_drewN ?_ _ | refine blk_drew ?_ | refine blk_alloc ?_ _)); exact BK119.out) hb); have n1_ := Aside0.mk (blk_below (g := gb120) (o := .cells #[.int .i64 ji9, .int .i64 x121001_11, .int .i64 x121002_11, .int .i64 0, .int .i64 (wrap64 (Go.bits .and .u32 a0 65535))] 55 (0, 0)) (by (with_reducible repeat (first | refine blk_drewN ?_ _ | refine blk_drew ?_ | refine blk_alloc ?_ _)); refine blk_put (cs := #[.int .i64 ji9, .int .i64 x121001_11, .int .i64 x121002_11, .int .i64 0, .int .i64 0]) ?_ 4 _ rfl; (with_reducible repeat (first | refine blk_drewN ?_ _ | refine blk_drew ?_ | refine blk_alloc ?_ _)); exact BK120.out) hb); have n2_ := Aside0.mk (blk_below (g := gb122) (o := .cells #[.bool (form_a (ji9)), .bool (form_b (ji9)), .bool (form_c (ji9)), .int .i64 (form_w (ji9)), .bool (form_p (ji9))] 83 (0, 0)) (by (with_reducible repeat (first | refine blk_drewN ?_ _ | refine blk_drew ?_ | refine blk_alloc ?_ _)); refine blk_far ?_ NB122_120.out _; (with_reducible repeat (first | refine blk_drewN ?_ _ | refine blk_drew ?_ | refine blk_alloc ?_ _)); exact BK122.out) hb); have n3_ := Aside0.mk (below_step (by repeat (first | (with_reducible first | exact HB.out | apply below_alloc | apply pw_below_drewN | apply below_drew1 | refine below_set ?_ GE119.out | refine below_set ?_ GE120.out | refine below_set ?_ GE122.out) | exact HB.out)) hb); clear BK119; clear BK120; clear BK122; clear HB; have BK119 := n0_; have BK120 := n1_; have BK122 := n2_; have HB := n3_; clear n0_ n1_ n2_ n3_; (try clear hb); (try clear hb2); (try clear hk); (try clear hi); have hcz85_0 : w84.cell? ⟨gb119, 0, none⟩ = some (.int .i64 0) := (blk_cell BK119.out 0).trans rfl; have hcz85_1 : w84.cell? ⟨gb119, 1, none⟩ = some (.int .i64 0) := (blk_cell BK119.out 1).trans rfl; have hcz85_2 : w84.cell? ⟨gb119, 2, none⟩ = some (.int .i64 0) := (blk_cell BK119.out 2).trans rfl; have hcz85_3 : w84.cell? ⟨gb119, 3, none⟩ = some (.int .i64 0) := (blk_cell BK119.out 3).trans rfl; have hcz85_4 : w84.cell? ⟨gb119, 4, none⟩ = some (.int .i64 0) := (blk_cell BK119.out 4).trans rfl; have hfz85_0 := blk_frozen BK119.out 0; have hfz85_1 := blk_frozen BK119.out 1; have hfz85_2 := blk_frozen BK119.out 2; have hfz85_3 := blk_frozen BK119.out 3; have hfz85_4 := blk_frozen BK119.out 4))
         refine bodyPost_ret (results_ct rfl _ _ gb119 55 #[.int .i64 0, .int .i64 0, .int .i64 0, .int .i64 0, .int .i64 0] (0, 0) _ rfl (by (with_reducible repeat (first | refine blk_drewN ?_ _ | refine blk_drew ?_ | refine blk_alloc ?_ _)); refine blk_put (cs := #[.int .i64 0, .int .i64 0, .int .i64 0, .int .i64 0, .int .i64 0]) ?_ 4 _ rfl; (with_reducible repeat (first | refine blk_drewN ?_ _ | refine blk_drew ?_ | refine blk_alloc ?_ _)); refine blk_put (cs := #[.int .i64 0, .int .i64 0, .int .i64 0, .int .i64 0, .int .i64 0]) ?_ 3 _ rfl; (with_reducible repeat (first | refine blk_drewN ?_ _ | refine blk_drew ?_ | refine blk_alloc ?_ _)); refine blk_put (cs := #[.int .i64 0, .int .i64 0, .int .i64 0, .int .i64 0, .int .i64 0]) ?_ 2 _ rfl; (with_reducible repeat (first | refine blk_drewN ?_ _ | refine blk_drew ?_ | refine blk_alloc ?_ _)); refine blk_put (cs := #[.int .i64 0, .int .i64 0, .int .i64 0, .int .i64 0, .int .i64 0]) ?_ 1 _ rfl; (with_reducible repeat (first | refine blk_drewN ?_ _ | refine blk_drew ?_ | refine blk_alloc ?_ _)); refine blk_put (cs := #[.int .i64 0, .int .i64 0, .int .i64 0, .int .i64 0, .int .i64 0]) ?_ 0 _ rfl; (with_reducible repeat (first | refine blk_drewN ?_ _ | refine blk_drew ?_ | refine blk_alloc ?_ _)); exact BK119.out) Try.underlying55 rfl (by kernel_rfl)) rfl ?_
         exact ⟨by first | rfl | (simp [errW_none, errW_some] <;> rfl) | (simp only [← hji9]; first | rfl | (simp [errW_none, errW_some] <;> rfl)) | (simp [*, errW_none, errW_some] <;> rfl), by repeat (first | (with_reducible first | exact HB.out | apply below_alloc | apply pw_below_drewN | apply below_drew1 | refine below_set ?_ GE119.out | refine below_set ?_ GE120.out | refine below_set ?_ GE122.out) | exact HB.out)⟩
       ·
        rw [if_neg c60] at H
        have c60b0 : (form_p (ji9)) = false := by simpa using c60
        clear c60
        by_cases c86 : (form_w (ji9)) > 0
        ·
         rw [if_pos c86] at H
         have c86b0 : decide (0 < (form_w (ji9))) = true := decide_eq_true c86
         clear c86
         replace H := Option.bind_eq_some_iff.mp H
         obtain ⟨t127, A870, H⟩ := H
         replace H : ((code_Put.f kj11 ji9 x121001_11 x121002_11 0 t127).bind fun bt128 => (if bt128.2 = 0 then (if bt128.1 = a0 then (some (ji9, x121001_11, x121002_11, 0, t127, 0)) else (some (0, 0, 0, 0, 0, 3))) else (some (0, 0, 0, 0, 0, 3)))) = some (r1, r2, r3, r4, r5, r6) := H
         have A87 := Aside0.mk A870
         clear A870
         replace H := Option.bind_eq_some_iff.mp H
         obtain ⟨⟨t128, t129⟩, A880, H⟩ := H
         replace H : (if t129 = 0 then (if t128 = a0 then (some (ji9, x121001_11, x121002_11, 0, t127, 0)) else (some (0, 0, 0, 0, 0, 3))) else (some (0, 0, 0, 0, 0, 3))) = some (r1, r2, r3, r4, r5, r6) := H
         have A88 := Aside0.mk A880
         clear A880
         by_cases c89 : t129 = 0
         ·
          rw [if_pos c89] at H
          have c89b0 : (t129 == 0) = true := beq_iff_eq.mpr c89
          have c89b1 : (t129 != 0) = false := bne_eq_false_iff_eq.mpr c89
          clear c89
          by_cases c90 : t128 = a0
          ·
           rw [if_pos c90] at H
           have c90b0 : (t128 == a0) = true := beq_iff_eq.mpr c90
           have c90b1 : (t128 != a0) = false := bne_eq_false_iff_eq.mpr c90
           clear c90
           simp only [Option.some.injEq, Prod.mk.injEq] at H
           obtain ⟨rfl, rfl, rfl, rfl, rfl, rfl⟩ := H
           have hnb91 := NB122_119.out
           have hnc91 := NB119_122.out
           have hnb92 := NB122_120.out
           have hnc92 := NB120_122.out
           have hcz93_0 : wc.cell? ⟨gb122, 0, none⟩ = some (.bool (form_a (ji9))) := (blk_cell BK122.out 0).trans rfl
           have hcz93_1 : wc.cell? ⟨gb122, 1, none⟩ = some (.bool (form_b (ji9))) := (blk_cell BK122.out 1).trans rfl
           have hcz93_2 : wc.cell? ⟨gb122, 2, none⟩ = some (.bool (form_c (ji9))) := (blk_cell BK122.out 2).trans rfl
           have hcz93_3 : wc.cell? ⟨gb122, 3, none⟩ = some (.int .i64 (form_w (ji9))) := (blk_cell BK122.out 3).trans rfl
           have hcz93_4 : wc.cell? ⟨gb122, 4, none⟩ = some (.bool (form_p (ji9))) := (blk_cell BK122.out 4).trans rfl
           have hfz93_0 := blk_frozen BK122.out 0
           have hfz93_1 := blk_frozen BK122.out 1
           have hfz93_2 := blk_frozen BK122.out 2
           have hfz93_3 := blk_frozen BK122.out 3
           have hfz93_4 := blk_frozen BK122.out 4
           go_wp2_with (first | ((with_reducible refine gate_callee (f := 56) rfl ?_); refine goesL_ (some 54) rfl rfl Try.func56 (by kernel_rfl) rfl #[.int .u32 a0, .int .i64 (form_w (ji9))] rfl (by (try simp only [List.map_toArray, List.map_cons, List.map_nil]); first | done | (simp only [hji9]; rfl) | rfl | (simp only [List.length_drop, List.length_take]; rfl)) ?_; (with_reducible refine (bits_Sign.calls a0 (form_w (ji9)) t127 _ A87.out).mono ?_); rintro e w' ⟨rfl, ⟨nd, rfl⟩⟩; refine ⟨_, rfl, ?_⟩; (try (rw [drewN_self wc]; generalize hq_ : World.drewN wc _ = wc; have n0_ : Aside0 (wc.heap[gb119]? = some (.cells #[.int .i64 0, .int .i64 0, .int .i64 0, .int .i64 0, .int .i64 0] 55 (0, 0))) := ⟨by rw [← hq_]; exact (by (with_reducible repeat (first | refine blk_drewN ?_ _ | refine blk_drew ?_ | refine blk_alloc ?_ _)); exact BK119.out)⟩; have n1_ : Aside0 (wc.heap[gb120]? = some (.cells #[.int .i64 ji9, .int .i64 x121001_11, .int .i64 x121002_11, .int .i64 0, .int .i64 0] 55 (0, 0))) := ⟨by rw [← hq_]; exact (by (with_reducible repeat (first | refine blk_drewN ?_ _ | refine blk_drew ?_ | refine blk_alloc ?_ _)); exact BK120.out)⟩; have n2_ : Aside0 (wc.heap[gb122]? = some (.cells #[.bool (form_a (ji9)), .bool (form_b (ji9)), .bool (form_c (ji9)), .int .i64 (form_w (ji9)), .bool (form_p (ji9))] 83 (0, 0))) := ⟨by rw [← hq_]; exact (by (with_reducible repeat (first | refine blk_drewN ?_ _ | refine blk_drew ?_ | refine blk_alloc ?_ _)); exact BK122.out)⟩; have n3_ : Aside0 (Below w.heap.size w wc) := ⟨by rw [← hq_]; exact (by repeat (first | (with_reducible first | exact HB.out | apply below_alloc | apply pw_below_drewN | apply below_drew1 | refine below_set ?_ GE119.out | refine below_set ?_ GE120.out | refine below_set ?_ GE122.out) | exact HB.out))⟩; clear BK119 BK120 BK122 HB hq_; have BK119 := n0_; have BK120 := n1_; have BK122 := n2_; have HB := n3_; clear n0_ n1_ n2_ n3_)); have hnb94 := NB120_119.out; have hnc94 := NB119_120.out; have hcz95_0 : wc.cell? ⟨gb120, 0, none⟩ = some (.int .i64 ji9) := (blk_cell BK120.out 0).trans rfl; have hcz95_1 : wc.cell? ⟨gb120, 1, none⟩ = some (.int .i64 x121001_11) := (blk_cell BK120.out 1).trans rfl; have hcz95_2 : wc.cell? ⟨gb120, 2, none⟩ = some (.int .i64 x121002_11) := (blk_cell BK120.out 2).trans rfl; have hcz95_3 : wc.cell? ⟨gb120, 3, none⟩ = some (.int .i64 0) := (blk_cell BK120.out 3).trans rfl; have hcz95_4 : wc.cell? ⟨gb120, 4, none⟩ = some (.int .i64 0) := (blk_cell BK120.out 4).trans rfl; have hfz95_0 := blk_frozen BK120.out 0; have hfz95_1 := blk_frozen BK120.out 1; have hfz95_2 := blk_frozen BK120.out 2; have hfz95_3 := blk_frozen BK120.out 3; have hfz95_4 := blk_frozen BK120.out 4) | ((with_reducible refine gate_callee (f := 57) rfl ?_); refine goesL_ (some 58) rfl rfl Try.func57 (by kernel_rfl) rfl #[.agg #[.int .i64 ji9, .int .i64 x121001_11, .int .i64 x121002_11, .int .i64 0, .int .i64 t127]] rfl (by (try simp only [List.map_toArray, List.map_cons, List.map_nil]); first | done | (simp only [hji9]; rfl) | rfl | (simp only [List.length_drop, List.length_take]; rfl)) ?_; (with_reducible refine (code_Put.calls kj11 ji9 x121001_11 x121002_11 0 t127 t128 t129 _ A88.out).mono ?_); rintro e w96 ⟨rfl, hb⟩; refine ⟨_, rfl, ?_⟩; have n0_ := Aside0.mk (blk_below (g := gb119) (o := .cells #[.int .i64 0, .int .i64 0, .int .i64 0, .int .i64 0, .int .i64 0] 55 (0, 0)) (by (with_reducible repeat (first | refine blk_drewN ?_ _ | refine blk_drew ?_ | refine blk_alloc ?_ _)); refine blk_far ?_ NB119_120.out _; (with_reducible repeat (first | refine blk_drewN ?_ _ | refine blk_drew ?_ | refine blk_alloc ?_ _)); exact BK119.out) hb); have n1_ := Aside0.mk (blk_below (g := gb120) (o := .cells #[.int .i64 ji9, .int .i64 x121001_11, .int .i64 x121002_11, .int .i64 0, .int .i64 t127] 55 (0, 0)) (by (with_reducible repeat (first | refine blk_drewN ?_ _ | refine blk_drew ?_ | refine blk_alloc ?_ _)); refine blk_put (cs := #[.int .i64 ji9, .int .i64 x121001_11, .int .i64 x121002_11, .int .i64 0, .int .i64 0]) ?_ 4 _ rfl; (with_reducible repeat (first | refine blk_drewN ?_ _ | refine blk_drew ?_ | refine blk_alloc ?_ _)); exact BK120.out) hb); have n2_ := Aside0.mk (blk_below (g := gb122) (o := .cells #[.bool (form_a (ji9)), .bool (form_b (ji9)), .bool (form_c (ji9)), .int .i64 (form_w (ji9)), .bool (form_p (ji9))] 83 (0, 0)) (by (with_reducible repeat (first | refine blk_drewN ?_ _ | refine blk_drew ?_ | refine blk_alloc ?_ _)); refine blk_far ?_ NB122_120.out _; (with_reducible repeat (first | refine blk_drewN ?_ _ | refine blk_drew ?_ | refine blk_alloc ?_ _)); exact BK122.out) hb); have n3_ := Aside0.mk (below_step (by repeat (first | (with_reducible first | exact HB.out | apply below_alloc | apply pw_below_drewN | apply below_drew1 | refine below_set ?_ GE119.out | refine below_set ?_ GE120.out | refine below_set ?_ GE122.out) | exact HB.out)) hb); clear BK119; clear BK120; clear BK122; clear HB; have BK119 := n0_; have BK120 := n1_; have BK122 := n2_; have HB := n3_; clear n0_ n1_ n2_ n3_; (try clear hb); (try clear hb2); (try clear hk); (try clear hi); have hcz97_0 : w96.cell? ⟨gb120, 0, none⟩ = some (.int .i64 ji9) := (blk_cell BK120.out 0).trans rfl; have hcz97_1 : w96.cell? ⟨gb120, 1, none⟩ = some (.int .i64 x121001_11) := (blk_cell BK120.out 1).trans rfl; have hcz97_2 : w96.cell? ⟨gb120, 2, none⟩ = some (.int .i64 x121002_11) := (blk_cell BK120.out 2).trans rfl; have hcz97_3 : w96.cell? ⟨gb120, 3, none⟩ = some (.int .i64 0) := (blk_cell BK120.out 3).trans rfl; have hcz97_4 : w96.cell? ⟨gb120, 4, none⟩ = some (.int .i64 t127) := (blk_cell BK120.out 4).trans rfl; have hfz97_0 := blk_frozen BK120.out 0; have hfz97_1 := blk_frozen BK120.out 1; have hfz97_2 := blk_frozen BK120.out 2; have hfz97_3 := blk_frozen BK120.out 3; have hfz97_4 := blk_frozen BK120.out 4; have hcz98_0 : w96.cell? ⟨gb119, 0, none⟩ = some (.int .i64 0) := (blk_cell BK119.out 0).trans rfl; have hcz98_1 : w96.cell? ⟨gb119, 1, none⟩ = some (.int .i64 0) := (blk_cell BK119.out 1).trans rfl; have hcz98_2 : w96.cell? ⟨gb119, 2, none⟩ = some (.int .i64 0) := (blk_cell BK119.out 2).trans rfl; have hcz98_3 : w96.cell? ⟨gb119, 3, none⟩ = some (.int .i64 0) := (blk_cell BK119.out 3).trans rfl; have hcz98_4 : w96.cell? ⟨gb119, 4, none⟩ = some (.int .i64 0) := (blk_cell BK119.out 4).trans rfl; have hfz98_0 := blk_frozen BK119.out 0; have hfz98_1 := blk_frozen BK119.out 1; have hfz98_2 := blk_frozen BK119.out 2; have hfz98_3 := blk_frozen BK119.out 3; have hfz98_4 := blk_frozen BK119.out 4))
           refine bodyPost_ret (results_ct rfl _ _ gb119 55 #[.int .i64 ji9, .int .i64 x121001_11, .int .i64 x121002_11, .int .i64 0, .int .i64 t127] (0, 0) _ rfl (by (with_reducible repeat (first | refine blk_drewN ?_ _ | refine blk_drew ?_ | refine blk_alloc ?_ _)); refine blk_put (cs := #[.int .i64 ji9, .int .i64 x121001_11, .int .i64 x121002_11, .int .i64 0, .int .i64 0]) ?_ 4 _ rfl; (with_reducible repeat (first | refine blk_drewN ?_ _ | refine blk_drew ?_ | refine blk_alloc ?_ _)); refine blk_put (cs := #[.int .i64 ji9, .int .i64 x121001_11, .int .i64 x121002_11, .int .i64 0, .int .i64 0]) ?_ 3 _ rfl; (with_reducible repeat (first | refine blk_drewN ?_ _ | refine blk_drew ?_ | refine blk_alloc ?_ _)); refine blk_put (cs := #[.int .i64 ji9, .int .i64 x121001_11, .int .i64 0, .int .i64 0, .int .i64 0]) ?_ 2 _ rfl; (with_reducible repeat (first | refine blk_drewN ?_ _ | refine blk_drew ?_ | refine blk_alloc ?_ _)); refine blk_put (cs := #[.int .i64 ji9, .int .i64 0, .int .i64 0, .int .i64 0, .int .i64 0]) ?_ 1 _ rfl; (with_reducible repeat (first | refine blk_drewN ?_ _ | refine blk_drew ?_ | refine blk_alloc ?_ _)); refine blk_put (cs := #[.int .i64 0, .int .i64 0, .int .i64 0, .int .i64 0, .int .i64 0]) ?_ 0 _ rfl; (with_reducible repeat (first | refine blk_drewN ?_ _ | refine blk_drew ?_ | refine blk_alloc ?_ _)); exact BK119.out) Try.underlying55 rfl (by kernel_rfl)) rfl ?_
           exact ⟨by first | rfl | (simp [errW_none, errW_some] <;> rfl) | (simp only [← hji9]; first | rfl | (simp [errW_none, errW_some] <;> rfl)) | (simp [*, errW_none, errW_some] <;> rfl), by repeat (first | (with_reducible first | exact HB.out | apply below_alloc | apply pw_below_drewN | apply below_drew1 | refine below_set ?_ GE119.out | refine below_set ?_ GE120.out | refine below_set ?_ GE122.out) | exact HB.out)⟩
          ·
           rw [if_neg c90] at H
           have c90b0 : (t128 == a0) = false := beq_eq_false_iff_ne.mpr c90
           have c90b1 : (t128 != a0) = true := bne_iff_ne.mpr c90
           simp only [Option.some.injEq, Prod.mk.injEq] at H
           obtain ⟨rfl, rfl, rfl, rfl, rfl, rfl⟩ := H
           have hnb99 := NB122_119.out
           have hnc99 := NB119_122.out
           have hnb100 := NB122_120.out
           have hnc100 := NB120_122.out
           have hcz101_0 : wc.cell? ⟨gb122, 0, none⟩ = some (.bool (form_a (ji9))) := (blk_cell BK122.out 0).trans rfl
           have hcz101_1 : wc.cell? ⟨gb122, 1, none⟩ = some (.bool (form_b (ji9))) := (blk_cell BK122.out 1).trans rfl
           have hcz101_2 : wc.cell? ⟨gb122, 2, none⟩ = some (.bool (form_c (ji9))) := (blk_cell BK122.out 2).trans rfl
           have hcz101_3 : wc.cell? ⟨gb122, 3, none⟩ = some (.int .i64 (form_w (ji9))) := (blk_cell BK122.out 3).trans rfl
           have hcz101_4 : wc.cell? ⟨gb122, 4, none⟩ = some (.bool (form_p (ji9))) := (blk_cell BK122.out 4).trans rfl
           have hfz101_0 := blk_frozen BK122.out 0
           have hfz101_1 := blk_frozen BK122.out 1
           have hfz101_2 := blk_frozen BK122.out 2
           have hfz101_3 := blk_frozen BK122.out 3
           have hfz101_4 := blk_frozen BK122.out 4
           go_wp2_with (first | ((with_reducible refine gate_callee (f := 56) rfl ?_); refine goesL_ (some 54) rfl rfl Try.func56 (by kernel_rfl) rfl #[.int .u32 a0, .int .i64 (form_w (ji9))] rfl (by (try simp only [List.map_toArray, List.map_cons, List.map_nil]); first | done | (simp only [hji9]; rfl) | rfl | (simp only [List.length_drop, List.length_take]; rfl)) ?_; (with_reducible refine (bits_Sign.calls a0 (form_w (ji9)) t127 _ A87.out).mono ?_); rintro e w' ⟨rfl, ⟨nd, rfl⟩⟩; refine ⟨_, rfl, ?_⟩; (try (rw [drewN_self wc]; generalize hq_ : World.drewN wc _ = wc; have n0_ : Aside0 (wc.heap[gb119]? = some (.cells #[.int .i64 0, .int .i64 0, .int .i64 0, .int .i64 0, .int .i64 0] 55 (0, 0))) := ⟨by rw [← hq_]; exact (by (with_reducible repeat (first | refine blk_drewN ?_ _ | refine blk_drew ?_ | refine blk_alloc ?_ _)); exact BK119.out)⟩; have n1_ : Aside0 (wc.heap[gb120]? = some (.cells #[.int .i64 ji9, .int .i64 x121001_11, .int .i64 x121002_11, .int .i64 0, .int .i64 0] 55 (0, 0))) := ⟨by rw [← hq_]; exact (by (with_reducible repeat (first | refine blk_drewN ?_ _ | refine blk_drew ?_ | refine blk_alloc ?_ _)); exact BK120.out)⟩; have n2_ : Aside0 (wc.heap[gb122]? = some (.cells #[.bool (form_a (ji9)), .bool (form_b (ji9)), .bool (form_c (ji9)), .int .i64 (form_w (ji9)), .bool (form_p (ji9))] 83 (0, 0))) := ⟨by rw [← hq_]; exact (by (with_reducible repeat (first | refine blk_drewN ?_ _ | refine blk_drew ?_ | refine blk_alloc ?_ _)); exact BK122.out)⟩; have n3_ : Aside0 (Below w.heap.size w wc) := ⟨by rw [← hq_]; exact (by repeat (first | (with_reducible first | exact HB.out | apply below_alloc | apply pw_below_drewN | apply below_drew1 | refine below_set ?_ GE119.out | refine below_set ?_ GE120.out | refine below_set ?_ GE122.out) | exact HB.out))⟩; clear BK119 BK120 BK122 HB hq_; have BK119 := n0_; have BK120 := n1_; have BK122 := n2_; have HB := n3_; clear n0_ n1_ n2_ n3_)); have hnb102 := NB120_119.out; have hnc102 := NB119_120.out; have hcz103_0 : wc.cell? ⟨gb120, 0, none⟩ = some (.int .i64 ji9) := (blk_cell BK120.out 0).trans rfl; have hcz103_1 : wc.cell? ⟨gb120, 1, none⟩ = some (.int .i64 x121001_11) := (blk_cell BK120.out 1).trans rfl; have hcz103_2 : wc.cell? ⟨gb120, 2, none⟩ = some (.int .i64 x121002_11) := (blk_cell BK120.out 2).trans rfl; have hcz103_3 : wc.cell? ⟨gb120, 3, none⟩ = some (.int .i64 0) := (blk_cell BK120.out 3).trans rfl; have hcz103_4 : wc.cell? ⟨gb120, 4, none⟩ = some (.int .i64 0) := (blk_cell BK120.out 4).trans rfl; have hfz103_0 := blk_frozen BK120.out 0; have hfz103_1 := blk_frozen BK120.out 1; have hfz103_2 := blk_frozen BK120.out 2; have hfz103_3 := blk_frozen BK120.out 3; have hfz103_4 := blk_frozen BK120.out 4) | ((with_reducible refine gate_callee (f := 57) rfl ?_); refine goesL_ (some 58) rfl rfl Try.func57 (by kernel_rfl) rfl #[.agg #[.int .i64 ji9, .int .i64 x121001_11, .int .i64 x121002_11, .int .i64 0, .int .i64 t127]] rfl (by (try simp only [List.map_toArray, List.map_cons, List.map_nil]); first | done | (simp only [hji9]; rfl) | rfl | (simp only [List.length_drop, List.length_take]; rfl)) ?_; (with_reducible refine (code_Put.calls kj11 ji9 x121001_11 x121002_11 0 t127 t128 t129 _ A88.out).mono ?_); rintro e w104 ⟨rfl, hb⟩; refine ⟨_, rfl, ?_⟩; have n0_ := Aside0.mk (blk_below (g := gb119) (o := .cells #[.int .i64 0, .int .i64 0, .int .i64 0, .int .i64 0, .int .i64 0] 55 (0, 0)) (by (with_reducible repeat (first | refine blk_drewN ?_ _ | refine blk_drew ?_ | refine blk_alloc ?_ _)); refine blk_far ?_ NB119_120.out _; (with_reducible repeat (first | refine blk_drewN ?_ _ | refine blk_drew ?_ | refine blk_alloc ?_ _)); exact BK119.out) hb); have n1_ := Aside0.mk (blk_below (g := gb120) (o := .cells #[.int .i64 ji9, .int .i64 x121001_11, .int .i64 x121002_11, .int .i64 0, .int .i64 t127] 55 (0, 0)) (by (with_reducible repeat (first | refine blk_drewN ?_ _ | refine blk_drew ?_ | refine blk_alloc ?_ _)); refine blk_put (cs := #[.int .i64 ji9, .int .i64 x121001_11, .int .i64 x121002_11, .int .i64 0, .int .i64 0]) ?_ 4 _ rfl; (with_reducible repeat (first | refine blk_drewN ?_ _ | refine blk_drew ?_ | refine blk_alloc ?_ _)); exact BK120.out) hb); have n2_ := Aside0.mk (blk_below (g := gb122) (o := .cells #[.bool (form_a (ji9)), .bool (form_b (ji9)), .bool (form_c (ji9)), .int .i64 (form_w (ji9)), .bool (form_p (ji9))] 83 (0, 0)) (by (with_reducible repeat (first | refine blk_drewN ?_ _ | refine blk_drew ?_ | refine blk_alloc ?_ _)); refine blk_far ?_ NB122_120.out _; (with_reducible repeat (first | refine blk_drewN ?_ _ | refine blk_drew ?_ | refine blk_alloc ?_ _)); exact BK122.out) hb); have n3_ := Aside0.mk (below_step (by repeat (first | (with_reducible first | exact HB.out | apply below_alloc | apply pw_below_drewN | apply below_drew1 | refine below_set ?_ GE119.out | refine below_set ?_ GE120.out | refine below_set ?_ GE122.out) | exact HB.out)) hb); clear BK119; clear BK120; clear BK122; clear HB; have BK119 := n0_; have BK120 := n1_; have BK122 := n2_; have HB := n3_; clear n0_ n1_ n2_ n3_; (try clear hb); (try clear hb2); (try clear hk); (try clear hi); have hcz105_0 : w104.cell? ⟨gb119, 0, none⟩ = some (.int .i64 0) := (blk_cell BK119.out 0).trans rfl; have hcz105_1 : w104.cell? ⟨gb119, 1, none⟩ = some (.int .i64 0) := (blk_cell BK119.out 1).trans rfl; have hcz105_2 : w104.cell? ⟨gb119, 2, none⟩ = some (.int .i64 0) := (blk_cell BK119.out 2).trans rfl; have hcz105_3 : w104.cell? ⟨gb119, 3, none⟩ = some (.int .i64 0) := (blk_cell BK119.out 3).trans rfl; have hcz105_4 : w104.cell? ⟨gb119, 4, none⟩ = some (.int .i64 0) := (blk_cell BK119.out 4).trans rfl; have hfz105_0 := blk_frozen BK119.out 0; have hfz105_1 := blk_frozen BK119.out 1; have hfz105_2 := blk_frozen BK119.out 2; have hfz105_3 := blk_frozen BK119.out 3; have hfz105_4 := blk_frozen BK119.out 4))
           refine bodyPost_ret (results_ct rfl _ _ gb119 55 #[.int .i64 0, .int .i64 0, .int .i64 0, .int .i64 0, .int .i64 0] (0, 0) _ rfl (by (with_reducible repeat (first | refine blk_drewN ?_ _ | refine blk_drew ?_ | refine blk_alloc ?_ _)); refine blk_put (cs := #[.int .i64 0, .int .i64 0, .int .i64 0, .int .i64 0, .int .i64 0]) ?_ 4 _ rfl; (with_reducible repeat (first | refine blk_drewN ?_ _ | refine blk_drew ?_ | refine blk_alloc ?_ _)); refine blk_put (cs := #[.int .i64 0, .int .i64 0, .int .i64 0, .int .i64 0, .int .i64 0]) ?_ 3 _ rfl; (with_reducible repeat (first | refine blk_drewN ?_ _ | refine blk_drew ?_ | refine blk_alloc ?_ _)); refine blk_put (cs := #[.int .i64 0, .int .i64 0, .int .i64 0, .int .i64 0, .int .i64 0]) ?_ 2 _ rfl; (with_reducible repeat (first | refine blk_drewN ?_ _ | refine blk_drew ?_ | refine blk_alloc ?_ _)); refine blk_put (cs := #[.int .i64 0, .int .i64 0, .int .i64 0, .int .i64 0, .int .i64 0]) ?_ 1 _ rfl; (with_reducible repeat (first | refine blk_drewN ?_ _ | refine blk_drew ?_ | refine blk_alloc ?_ _)); refine blk_put (cs := #[.int .i64 0, .int .i64 0, .int .i64 0, .int .i64 0, .int .i64 0]) ?_ 0 _ rfl; (with_reducible repeat (first | refine blk_drewN ?_ _ | refine blk_drew ?_ | refine blk_alloc ?_ _)); exact BK119.out) Try.underlying55 rfl (by kernel_rfl)) rfl ?_
           exact ⟨by first | rfl | (simp [errW_none, errW_some] <;> rfl) | (simp only [← hji9]; first | rfl | (simp [errW_none, errW_some] <;> rfl)) | (simp [*, errW_none, errW_some] <;> rfl), by repeat (first | (with_reducible first | exact HB.out | apply below_alloc | apply pw_below_drewN | apply below_drew1 | refine below_set ?_ GE119.out | refine below_set ?_ GE120.out | refine below_set ?_ GE122.out) | exact HB.out)⟩
         ·
          rw [if_neg c89] at H
          have c89b0 : (t129 == 0) = false := beq_eq_false_iff_ne.mpr c89
          have c89b1 : (t129 != 0) = true := bne_iff_ne.mpr c89
          simp only [Option.some.injEq, Prod.mk.injEq] at H
          obtain ⟨rfl, rfl, rfl, rfl, rfl, rfl⟩ := H
          have hnb106 := NB122_119.out
          have hnc106 := NB119_122.out
          have hnb107 := NB122_120.out
          have hnc107 := NB120_122.out
          have hcz108_0 : wc.cell? ⟨gb122, 0, none⟩ = some (.bool (form_a (ji9))) := (blk_cell BK122.out 0).trans rfl
          have hcz108_1 : wc.cell? ⟨gb122, 1, none⟩ = some (.bool (form_b (ji9))) := (blk_cell BK122.out 1).trans rfl
          have hcz108_2 : wc.cell? ⟨gb122, 2, none⟩ = some (.bool (form_c (ji9))) := (blk_cell BK122.out 2).trans rfl
          have hcz108_3 : wc.cell? ⟨gb122, 3, none⟩ = some (.int .i64 (form_w (ji9))) := (blk_cell BK122.out 3).trans rfl
          have hcz108_4 : wc.cell? ⟨gb122, 4, none⟩ = some (.bool (form_p (ji9))) := (blk_cell BK122.out 4).trans rfl
          have hfz108_0 := blk_frozen BK122.out 0
          have hfz108_1 := blk_frozen BK122.out 1
          have hfz108_2 := blk_frozen BK122.out 2
          have hfz108_3 := blk_frozen BK122.out 3
          have hfz108_4 := blk_frozen BK122.out 4
          go_wp2_with (first | ((with_reducible refine gate_callee (f := 56) rfl ?_); refine goesL_ (some 54) rfl rfl Try.func56 (by kernel_rfl) rfl #[.int .u32 a0, .int .i64 (form_w (ji9))] rfl (by (try simp only [List.map_toArray, List.map_cons, List.map_nil]); first | done | (simp only [hji9]; rfl) | rfl | (simp only [List.length_drop, List.length_take]; rfl)) ?_; (with_reducible refine (bits_Sign.calls a0 (form_w (ji9)) t127 _ A87.out).mono ?_); rintro e w' ⟨rfl, ⟨nd, rfl⟩⟩; refine ⟨_, rfl, ?_⟩; (try (rw [drewN_self wc]; generalize hq_ : World.drewN wc _ = wc; have n0_ : Aside0 (wc.heap[gb119]? = some (.cells #[.int .i64 0, .int .i64 0, .int .i64 0, .int .i64 0, .int .i64 0] 55 (0, 0))) := ⟨by rw [← hq_]; exact (by (with_reducible repeat (first | refine blk_drewN ?_ _ | refine blk_drew ?_ | refine blk_alloc ?_ _)); exact BK119.out)⟩; have n1_ : Aside0 (wc.heap[gb120]? = some (.cells #[.int .i64 ji9, .int .i64 x121001_11, .int .i64 x121002_11, .int .i64 0, .int .i64 0] 55 (0, 0))) := ⟨by rw [← hq_]; exact (by (with_reducible repeat (first | refine blk_drewN ?_ _ | refine blk_drew ?_ | refine blk_alloc ?_ _)); exact BK120.out)⟩; have n2_ : Aside0 (wc.heap[gb122]? = some (.cells #[.bool (form_a (ji9)), .bool (form_b (ji9)), .bool (form_c (ji9)), .int .i64 (form_w (ji9)), .bool (form_p (ji9))] 83 (0, 0))) := ⟨by rw [← hq_]; exact (by (with_reducible repeat (first | refine blk_drewN ?_ _ | refine blk_drew ?_ | refine blk_alloc ?_ _)); exact BK122.out)⟩; have n3_ : Aside0 (Below w.heap.size w wc) := ⟨by rw [← hq_]; exact (by repeat (first | (with_reducible first | exact HB.out | apply below_alloc | apply pw_below_drewN | apply below_drew1 | refine below_set ?_ GE119.out | refine below_set ?_ GE120.out | refine below_set ?_ GE122.out) | exact HB.out))⟩; clear BK119 BK120 BK122 HB hq_; have BK119 := n0_; have BK120 := n1_; have BK122 := n2_; have HB := n3_; clear n0_ n1_ n2_ n3_)); have hnb109 := NB120_119.out; have hnc109 := NB119_120.out; have hcz110_0 : wc.cell? ⟨gb120, 0, none⟩ = some (.int .i64 ji9) := (blk_cell BK120.out 0).trans rfl; have hcz110_1 : wc.cell? ⟨gb120, 1, none⟩ = some (.int .i64 x121001_11) := (blk_cell BK120.out 1).trans rfl; have hcz110_2 : wc.cell? ⟨gb120, 2, none⟩ = some (.int .i64 x121002_11) := (blk_cell BK120.out 2).trans rfl; have hcz110_3 : wc.cell? ⟨gb120, 3, none⟩ = some (.int .i64 0) := (blk_cell BK120.out 3).trans rfl; have hcz110_4 : wc.cell? ⟨gb120, 4, none⟩ = some (.int .i64 0) := (blk_cell BK120.out 4).trans rfl; have hfz110_0 := blk_frozen BK120.out 0; have hfz110_1 := blk_frozen BK120.out 1; have hfz110_2 := blk_frozen BK120.out 2; have hfz110_3 := blk_frozen BK120.out 3; have hfz110_4 := blk_frozen BK120.out 4) | ((with_reducible refine gate_callee (f := 57) rfl ?_); refine goesL_ (some 58) rfl rfl Try.func57 (by kernel_rfl) rfl #[.agg #[.int .i64 ji9, .int .i64 x121001_11, .int .i64 x121002_11, .int .i64 0, .int .i64 t127]] rfl (by (try simp only [List.map_toArray, List.map_cons, List.map_nil]); first | done | (simp only [hji9]; rfl) | rfl | (simp only [List.length_drop, List.length_take]; rfl)) ?_; (with_reducible refine (code_Put.calls kj11 ji9 x121001_11 x121002_11 0 t127 t128 t129 _ A88.out).mono ?_); rintro e w111 ⟨rfl, hb⟩; refine ⟨_, rfl, ?_⟩; have n0_ := Aside0.mk (blk_below (g := gb119) (o := .cells #[.int .i64 0, .int .i64 0, .int .i64 0, .int .i64 0, .int .i64 0] 55 (0, 0)) (by (with_reducible repeat (first | refine blk_drewN ?_ _ | refine blk_drew ?_ | refine blk_alloc ?_ _)); refine blk_far ?_ NB119_120.out _; (with_reducible repeat (first | refine blk_drewN ?_ _ | refine blk_drew ?_ | refine blk_alloc ?_ _)); exact BK119.out) hb); have n1_ := Aside0.mk (blk_below (g := gb120) (o := .cells #[.int .i64 ji9, .int .i64 x121001_11, .int .i64 x121002_11, .int .i64 0, .int .i64 t127] 55 (0, 0)) (by (with_reducible repeat (first | refine blk_drewN ?_ _ | refine blk_drew ?_ | refine blk_alloc ?_ _)); refine blk_put (cs := #[.int .i64 ji9, .int .i64 x121001_11, .int .i64 x121002_11, .int .i64 0, .int .i64 0]) ?_ 4 _ rfl; (with_reducible repeat (first | refine blk_drewN ?_ _ | refine blk_drew ?_ | refine blk_alloc ?_ _)); exact BK120.out) hb); have n2_ := Aside0.mk (blk_below (g := gb122) (o := .cells #[.bool (form_a (ji9)), .bool (form_b (ji9)), .bool (form_c (ji9)), .int .i64 (form_w (ji9)), .bool (form_p (ji9))] 83 (0, 0)) (by (with_reducible repeat (first | refine blk_drewN ?_ _ | refine blk_drew ?_ | refine blk_alloc ?_ _)); refine blk_far ?_ NB122_120.out _; (with_reducible repeat (first | refine blk_drewN ?_ _ | refine blk_drew ?_ | refine blk_alloc ?_ _)); exact BK122.out) hb); have n3_ := Aside0.mk (below_step (by repeat (first | (with_reducible first | exact HB.out | apply below_alloc | apply pw_below_drewN | apply below_drew1 | refine below_set ?_ GE119.out | refine below_set ?_ GE120.out | refine below_set ?_ GE122.out) | exact HB.out)) hb); clear BK119; clear BK120; clear BK122; clear HB; have BK119 := n0_; have BK120 := n1_; have BK122 := n2_; have HB := n3_; clear n0_ n1_ n2_ n3_; (try clear hb); (try clear hb2); (try clear hk); (try clear hi); have hcz112_0 : w111.cell? ⟨gb119, 0, none⟩ = some (.int .i64 0) := (blk_cell BK119.out 0).trans rfl; have hcz112_1 : w111.cell? ⟨gb119, 1, none⟩ = some (.int .i64 0) := (blk_cell BK119.out 1).trans rfl; have hcz112_2 : w111.cell? ⟨gb119, 2, none⟩ = some (.int .i64 0) := (blk_cell BK119.out 2).trans rfl; have hcz112_3 : w111.cell? ⟨gb119, 3, none⟩ = some (.int .i64 0) := (blk_cell BK119.out 3).trans rfl; have hcz112_4 : w111.cell? ⟨gb119, 4, none⟩ = some (.int .i64 0) := (blk_cell BK119.out 4).trans rfl; have hfz112_0 := blk_frozen BK119.out 0; have hfz112_1 := blk_frozen BK119.out 1; have hfz112_2 := blk_frozen BK119.out 2; have hfz112_3 := blk_frozen BK119.out 3; have hfz112_4 := blk_frozen BK119.out 4))
          refine bodyPost_ret (results_ct rfl _ _ gb119 55 #[.int .i64 0, .int .i64 0, .int .i64 0, .int .i64 0, .int .i64 0] (0, 0) _ rfl (by (with_reducible repeat (first | refine blk_drewN ?_ _ | refine blk_drew ?_ | refine blk_alloc ?_ _)); refine blk_put (cs := #[.int .i64 0, .int .i64 0, .int .i64 0, .int .i64 0, .int .i64 0]) ?_ 4 _ rfl; (with_reducible repeat (first | refine blk_drewN ?_ _ | refine blk_drew ?_ | refine blk_alloc ?_ _)); refine blk_put (cs := #[.int .i64 0, .int .i64 0, .int .i64 0, .int .i64 0, .int .i64 0]) ?_ 3 _ rfl; (with_reducible repeat (first | refine blk_drewN ?_ _ | refine blk_drew ?_ | refine blk_alloc ?_ _)); refine blk_put (cs := #[.int .i64 0, .int .i64 0, .int .i64 0, .int .i64 0, .int .i64 0]) ?_ 2 _ rfl; (with_reducible repeat (first | refine blk_drewN ?_ _ | refine blk_drew ?_ | refine blk_alloc ?_ _)); refine blk_put (cs := #[.int .i64 0, .int .i64 0, .int .i64 0, .int .i64 0, .int .i64 0]) ?_ 1 _ rfl; (with_reducible repeat (first | refine blk_drewN ?_ _ | refine blk_drew ?_ | refine blk_alloc ?_ _)); refine blk_put (cs := #[.int .i64 0, .int .i64 0, .int .i64 0, .int .i64 0, .int .i64 0]) ?_ 0 _ rfl; (with_reducible repeat (first | refine blk_drewN ?_ _ | refine blk_drew ?_ | refine blk_alloc ?_ _)); exact BK119.out) Try.underlying55 rfl (by kernel_rfl)) rfl ?_
          exact ⟨by first | rfl | (simp [errW_none, errW_some] <;> rfl) | (simp only [← hji9]; first | rfl | (simp [errW_none, errW_some] <;> rfl)) | (simp [*, errW_none, errW_some] <;> rfl), by repeat (first | (with_reducible first | exact HB.out | apply below_alloc | apply pw_below_drewN | apply below_drew1 | refine below_set ?_ GE119.out | refine below_set ?_ GE120.out | refine below_set ?_ GE122.out) | exact HB.out)⟩
        ·
         rw [if_neg c86] at H
         have c86b0 : decide (0 < (form_w (ji9))) = false := decide_eq_false c86
         clear c86
         replace H := Option.bind_eq_some_iff.mp H
         obtain ⟨⟨t130, t131⟩, A1130, H⟩ := H
         replace H : (if t131 = 0 then (if t130 = a0 then (some (ji9, x121001_11, x121002_11, 0, 0, 0)) else (some (0, 0, 0, 0, 0, 3))) else (some (0, 0, 0, 0, 0, 3))) = some (r1, r2, r3, r4, r5, r6) := H
         have A113 := Aside0.mk A1130
         clear A1130
         by_cases c114 : t131 = 0
         ·
          rw [if_pos c114] at H
          have c114b0 : (t131 == 0) = true := beq_iff_eq.mpr c114
          have c114b1 : (t131 != 0) = false := bne_eq_false_iff_eq.mpr c114
          clear c114
          by_cases c115 : t130 = a0
          ·
           rw [if_pos c115] at H
           have c115b0 : (t130 == a0) = true := beq_iff_eq.mpr c115
           have c115b1 : (t130 != a0) = false := bne_eq_false_iff_eq.mpr c115
           clear c115
           simp only [Option.some.injEq, Prod.mk.injEq] at H
           obtain ⟨rfl, rfl, rfl, rfl, rfl, rfl⟩ := H
           have hnb116 := NB122_119.out
           have hnc116 := NB119_122.out
           have hnb117 := NB122_120.out
           have hnc117 := NB120_122.out
           have hcz118_0 : wc.cell? ⟨gb122, 0, none⟩ = some (.bool (form_a (ji9))) := (blk_cell BK122.out 0).trans rfl
           have hcz118_1 : wc.cell? ⟨gb122, 1, none⟩ = some (.bool (form_b (ji9))) := (blk_cell BK122.out 1).trans rfl
           have hcz118_2 : wc.cell? ⟨gb122, 2, none⟩ = some (.bool (form_c (ji9))) := (blk_cell BK122.out 2).trans rfl
           have hcz118_3 : wc.cell? ⟨gb122, 3, none⟩ = some (.int .i64 (form_w (ji9))) := (blk_cell BK122.out 3).trans rfl
           have hcz118_4 : wc.cell? ⟨gb122, 4, none⟩ = some (.bool (form_p (ji9))) := (blk_cell BK122.out 4).trans rfl
           have hfz118_0 := blk_frozen BK122.out 0
           have hfz118_1 := blk_frozen BK122.out 1
           have hfz118_2 := blk_frozen BK122.out 2
           have hfz118_3 := blk_frozen BK122.out 3
           have hfz118_4 := blk_frozen BK122.out 4
           have hnb119 := NB120_119.out
           have hnc119 := NB119_120.out
           have hcz120_0 : wc.cell? ⟨gb120, 0, none⟩ = some (.int .i64 ji9) := (blk_cell BK120.out 0).trans rfl
           have hcz120_1 : wc.cell? ⟨gb120, 1, none⟩ = some (.int .i64 x121001_11) := (blk_cell BK120.out 1).trans rfl
           have hcz120_2 : wc.cell? ⟨gb120, 2, none⟩ = some (.int .i64 x121002_11) := (blk_cell BK120.out 2).trans rfl
           have hcz120_3 : wc.cell? ⟨gb120, 3, none⟩ = some (.int .i64 0) := (blk_cell BK120.out 3).trans rfl
           have hcz120_4 : wc.cell? ⟨gb120, 4, none⟩ = some (.int .i64 0) := (blk_cell BK120.out 4).trans rfl
           have hfz120_0 := blk_frozen BK120.out 0
           have hfz120_1 := blk_frozen BK120.out 1
           have hfz120_2 := blk_frozen BK120.out 2
           have hfz120_3 := blk_frozen BK120.out 3
           have hfz120_4 := blk_frozen BK120.out 4
           go_wp2_with (first | ((with_reducible refine gate_callee (f := 57) rfl ?_); refine goesL_ (some 58) rfl rfl Try.func57 (by kernel_rfl) rfl #[.agg #[.int .i64 ji9, .int .i64 x121001_11, .int .i64 x121002_11, .int .i64 0, .int .i64 0]] rfl (by (try simp only [List.map_toArray, List.map_cons, List.map_nil]); first | done | (simp only [hji9]; rfl) | rfl | (simp only [List.length_drop, List.length_take]; rfl)) ?_; (with_reducible refine (code_Put.calls kj11 ji9 x121001_11 x121002_11 0 0 t130 t131 _ A113.out).mono ?_); rintro e w121 ⟨rfl, hb⟩; refine ⟨_, rfl, ?_⟩; have n0_ := Aside0.mk (blk_below (g := gb119) (o := .cells #[.int .i64 0, .int .i64 0, .int .i64 0, .int .i64 0, .int .i64 0] 55 (0, 0)) (by (with_reducible repeat (first | refine blk_drewN ?_ _ | refine blk_drew ?_ | refine blk_alloc ?_ _)); exact BK119.out) hb); have n1_ := Aside0.mk (blk_below (g := gb120) (o := .cells #[.int .i64 ji9, .int .i64 x121001_11, .int .i64 x121002_11, .int .i64 0, .int .i64 0] 55 (0, 0)) (by (with_reducible repeat (first | refine blk_drewN ?_ _ | refine blk_drew ?_ | refine blk_alloc ?_ _)); exact BK120.out) hb); have n2_ := Aside0.mk (blk_below (g := gb122) (o := .cells #[.bool (form_a (ji9)), .bool (form_b (ji9)), .bool (form_c (ji9)), .int .i64 (form_w (ji9)), .bool (form_p (ji9))] 83 (0, 0)) (by (with_reducible repeat (first | refine blk_drewN ?_ _ | refine blk_drew ?_ | refine blk_alloc ?_ _)); exact BK122.out) hb); have n3_ := Aside0.mk (below_step (by repeat (first | (with_reducible first | exact HB.out | apply below_alloc | apply pw_below_drewN | apply below_drew1 | refine below_set ?_ GE119.out | refine below_set ?_ GE120.out | refine below_set ?_ GE122.out) | exact HB.out)) hb); clear BK119; clear BK120; clear BK122; clear HB; have BK119 := n0_; have BK120 := n1_; have BK122 := n2_; have HB := n3_; clear n0_ n1_ n2_ n3_; (try clear hb); (try clear hb2); (try clear hk); (try clear hi); have hcz122_0 : w121.cell? ⟨gb120, 0, none⟩ = some (.int .i64 ji9) := (blk_cell BK120.out 0).trans rfl; have hcz122_1 : w121.cell? ⟨gb120, 1, none⟩ = some (.int .i64 x121001_11) := (blk_cell BK120.out 1).trans rfl; have hcz122_2 : w121.cell? ⟨gb120, 2, none⟩ = some (.int .i64 x121002_11) := (blk_cell BK120.out 2).trans rfl; have hcz122_3 : w121.cell? ⟨gb120, 3, none⟩ = some (.int .i64 0) := (blk_cell BK120.out 3).trans rfl; have hcz122_4 : w121.cell? ⟨gb120, 4, none⟩ = some (.int .i64 0) := (blk_cell BK120.out 4).trans rfl; have hfz122_0 := blk_frozen BK120.out 0; have hfz122_1 := blk_frozen BK120.out 1; have hfz122_2 := blk_frozen BK120.out 2; have hfz122_3 := blk_frozen BK120.out 3; have hfz122_4 := blk_frozen BK120.out 4; have hcz123_0 : w121.cell? ⟨gb119, 0, none⟩ = some (.int .i64 0) := (blk_cell BK119.out 0).trans rfl; have hcz123_1 : w121.cell? ⟨gb119, 1, none⟩ = some (.int .i64 0) := (blk_cell BK119.out 1).trans rfl; have hcz123_2 : w121.cell? ⟨gb119, 2, none⟩ = some (.int .i64 0) := (blk_cell BK119.out 2).trans rfl; have hcz123_3 : w121.cell? ⟨gb119, 3, none⟩ = some (.int .i64 0) := (blk_cell BK119.out 3).trans rfl; have hcz123_4 : w121.cell? ⟨gb119, 4, none⟩ = some (.int .i64 0) := (blk_cell BK119.out 4).trans rfl; have hfz123_0 := blk_frozen BK119.out 0; have hfz123_1 := blk_frozen BK119.out 1; have hfz123_2 := blk_frozen BK119.out 2; have hfz123_3 := blk_frozen BK119.out 3; have hfz123_4 := blk_frozen BK119.out 4))
           refine bodyPost_ret (results_ct rfl _ _ gb119 55 #[.int .i64 ji9, .int .i64 x121001_11, .int .i64 x121002_11, .int .i64 0, .int .i64 0] (0, 0) _ rfl (by (with_reducible repeat (first | refine blk_drewN ?_ _ | refine blk_drew ?_ | refine blk_alloc ?_ _)); refine blk_put (cs := #[.int .i64 ji9, .int .i64 x121001_11, .int .i64 x121002_11, .int .i64 0, .int .i64 0]) ?_ 4 _ rfl; (with_reducible repeat (first | refine blk_drewN ?_ _ | refine blk_drew ?_ | refine blk_alloc ?_ _)); refine blk_put (cs := #[.int .i64 ji9, .int .i64 x121001_11, .int .i64 x121002_11, .int .i64 0, .int .i64 0]) ?_ 3 _ rfl; (with_reducible repeat (first | refine blk_drewN ?_ _ | refine blk_drew ?_ | refine blk_alloc ?_ _)); refine blk_put (cs := #[.int .i64 ji9, .int .i64 x121001_11, .int .i64 0, .int .i64 0, .int .i64 0]) ?_ 2 _ rfl; (with_reducible repeat (first | refine blk_drewN ?_ _ | refine blk_drew ?_ | refine blk_alloc ?_ _)); refine blk_put (cs := #[.int .i64 ji9, .int .i64 0, .int .i64 0, .int .i64 0, .int .i64 0]) ?_ 1 _ rfl; (with_reducible repeat (first | refine blk_drewN ?_ _ | refine blk_drew ?_ | refine blk_alloc ?_ _)); refine blk_put (cs := #[.int .i64 0, .int .i64 0, .int .i64 0, .int .i64 0, .int .i64 0]) ?_ 0 _ rfl; (with_reducible repeat (first | refine blk_drewN ?_ _ | refine blk_drew ?_ | refine blk_alloc ?_ _)); exact BK119.out) Try.underlying55 rfl (by kernel_rfl)) rfl ?_
           exact ⟨by first | rfl | (simp [errW_none, errW_some] <;> rfl) | (simp only [← hji9]; first | rfl | (simp [errW_none, errW_some] <;> rfl)) | (simp [*, errW_none, errW_some] <;> rfl), by repeat (first | (with_reducible first | exact HB.out | apply below_alloc | apply pw_below_drewN | apply below_drew1 | refine below_set ?_ GE119.out | refine below_set ?_ GE120.out | refine below_set ?_ GE122.out) | exact HB.out)⟩
          ·
           rw [if_neg c115] at H
           have c115b0 : (t130 == a0) = false := beq_eq_false_iff_ne.mpr c115
           have c115b1 : (t130 != a0) = true := bne_iff_ne.mpr c115
           simp only [Option.some.injEq, Prod.mk.injEq] at H
           obtain ⟨rfl, rfl, rfl, rfl, rfl, rfl⟩ := H
           have hnb124 := NB122_119.out
           have hnc124 := NB119_122.out
           have hnb125 := NB122_120.out
           have hnc125 := NB120_122.out
           have hcz126_0 : wc.cell? ⟨gb122, 0, none⟩ = some (.bool (form_a (ji9))) := (blk_cell BK122.out 0).trans rfl
           have hcz126_1 : wc.cell? ⟨gb122, 1, none⟩ = some (.bool (form_b (ji9))) := (blk_cell BK122.out 1).trans rfl
           have hcz126_2 : wc.cell? ⟨gb122, 2, none⟩ = some (.bool (form_c (ji9))) := (blk_cell BK122.out 2).trans rfl
           have hcz126_3 : wc.cell? ⟨gb122, 3, none⟩ = some (.int .i64 (form_w (ji9))) := (blk_cell BK122.out 3).trans rfl
           have hcz126_4 : wc.cell? ⟨gb122, 4, none⟩ = some (.bool (form_p (ji9))) := (blk_cell BK122.out 4).trans rfl
           have hfz126_0 := blk_frozen BK122.out 0
           have hfz126_1 := blk_frozen BK122.out 1
           have hfz126_2 := blk_frozen BK122.out 2
           have hfz126_3 := blk_frozen BK122.out 3
           have hfz126_4 := blk_frozen BK122.out 4
           have hnb127 := NB120_119.out
           have hnc127 := NB119_120.out
           have hcz128_0 : wc.cell? ⟨gb120, 0, none⟩ = some (.int .i64 ji9) := (blk_cell BK120.out 0).trans rfl
           have hcz128_1 : wc.cell? ⟨gb120, 1, none⟩ = some (.int .i64 x121001_11) := (blk_cell BK120.out 1).trans rfl
           have hcz128_2 : wc.cell? ⟨gb120, 2, none⟩ = some (.int .i64 x121002_11) := (blk_cell BK120.out 2).trans rfl
           have hcz128_3 : wc.cell? ⟨gb120, 3, none⟩ = some (.int .i64 0) := (blk_cell BK120.out 3).trans rfl
           have hcz128_4 : wc.cell? ⟨gb120, 4, none⟩ = some (.int .i64 0) := (blk_cell BK120.out 4).trans rfl
           have hfz128_0 := blk_frozen BK120.out 0
           have hfz128_1 := blk_frozen BK120.out 1
           have hfz128_2 := blk_frozen BK120.out 2
           have hfz128_3 := blk_frozen BK120.out 3
           have hfz128_4 := blk_frozen BK120.out 4
           go_wp2_with (first | ((with_reducible refine gate_callee (f := 57) rfl ?_); refine goesL_ (some 58) rfl rfl Try.func57 (by kernel_rfl) rfl #[.agg #[.int .i64 ji9, .int .i64 x121001_11, .int .i64 x121002_11, .int .i64 0, .int .i64 0]] rfl (by (try simp only [List.map_toArray, List.map_cons, List.map_nil]); first | done | (simp only [hji9]; rfl) | rfl | (simp only [List.length_drop, List.length_take]; rfl)) ?_; (with_reducible refine (code_Put.calls kj11 ji9 x121001_11 x121002_11 0 0 t130 t131 _ A113.out).mono ?_); rintro e w129 ⟨rfl, hb⟩; refine ⟨_, rfl, ?_⟩; have n0_ := Aside0.mk (blk_below (g := gb119) (o := .cells #[.int .i64 0, .int .i64 0, .int .i64 0, .int .i64 0, .int .i64 0] 55 (0, 0)) (by (with_reducible repeat (first | refine blk_drewN ?_ _ | refine blk_drew ?_ | refine blk_alloc ?_ _)); exact BK119.out) hb); have n1_ := Aside0.mk (blk_below (g := gb120) (o := .cells #[.int .i64 ji9, .int .i64 x121001_11, .int .i64 x121002_11, .int .i64 0, .int .i64 0] 55 (0, 0)) (by (with_reducible repeat (first | refine blk_drewN ?_ _ | refine blk_drew ?_ | refine blk_alloc ?_ _)); exact BK120.out) hb); have n2_ := Aside0.mk (blk_below (g := gb122) (o := .cells #[.bool (form_a (ji9)), .bool (form_b (ji9)), .bool (form_c (ji9)), .int .i64 (form_w (ji9)), .bool (form_p (ji9))] 83 (0, 0)) (by (with_reducible repeat (first | refine blk_drewN ?_ _ | refine blk_drew ?_ | refine blk_alloc ?_ _)); exact BK122.out) hb); have n3_ := Aside0.mk (below_step (by repeat (first | (with_reducible first | exact HB.out | apply below_alloc | apply pw_below_drewN | apply below_drew1 | refine below_set ?_ GE119.out | refine below_set ?_ GE120.out | refine below_set ?_ GE122.out) | exact HB.out)) hb); clear BK119; clear BK120; clear BK122; clear HB; have BK119 := n0_; have BK120 := n1_; have BK122 := n2_; have HB := n3_; clear n0_ n1_ n2_ n3_; (try clear hb); (try clear hb2); (try clear hk); (try clear hi); have hcz130_0 : w129.cell? ⟨gb119, 0, none⟩ = some (.int .i64 0) := (blk_cell BK119.out 0).trans rfl; have hcz130_1 : w129.cell? ⟨gb119, 1, none⟩ = some (.int .i64 0) := (blk_cell BK119.out 1).trans rfl; have hcz130_2 : w129.cell? ⟨gb119, 2, none⟩ = some (.int .i64 0) := (blk_cell BK119.out 2).trans rfl; have hcz130_3 : w129.cell? ⟨gb119, 3, none⟩ = some (.int .i64 0) := (blk_cell BK119.out 3).trans rfl; have hcz130_4 : w129.cell? ⟨gb119, 4, none⟩ = some (.int .i64 0) := (blk_cell BK119.out 4).trans rfl; have hfz130_0 := blk_frozen BK119.out 0; have hfz130_1 := blk_frozen BK119.out 1; have hfz130_2 := blk_frozen BK119.out 2; have hfz130_3 := blk_frozen BK119.out 3; have hfz130_4 := blk_frozen BK119.out 4))
           refine bodyPost_ret (results_ct rfl _ _ gb119 55 #[.int .i64 0, .int .i64 0, .int .i64 0, .int .i64 0, .int .i64 0] (0, 0) _ rfl (by (with_reducible repeat (first | refine blk_drewN ?_ _ | refine blk_drew ?_ | refine blk_alloc ?_ _)); refine blk_put (cs := #[.int .i64 0, .int .i64 0, .int .i64 0, .int .i64 0, .int .i64 0]) ?_ 4 _ rfl; (with_reducible repeat (first | refine blk_drewN ?_ _ | refine blk_drew ?_ | refine blk_alloc ?_ _)); refine blk_put (cs := #[.int .i64 0, .int .i64 0, .int .i64 0, .int .i64 0, .int .i64 0]) ?_ 3 _ rfl; (with_reducible repeat (first | refine blk_drewN ?_ _ | refine blk_drew ?_ | refine blk_alloc ?_ _)); refine blk_put (cs := #[.int .i64 0, .int .i64 0, .int .i64 0, .int .i64 0, .int .i64 0]) ?_ 2 _ rfl; (with_reducible repeat (first | refine blk_drewN ?_ _ | refine blk_drew ?_ | refine blk_alloc ?_ _)); refine blk_put (cs := #[.int .i64 0, .int .i64 0, .int .i64 0, .int .i64 0, .int .i64 0]) ?_ 1 _ rfl; (with_reducible repeat (first | refine blk_drewN ?_ _ | refine blk_drew ?_ | refine blk_alloc ?_ _)); refine blk_put (cs := #[.int .i64 0, .int .i64 0, .int .i64 0, .int .i64 0, .int .i64 0]) ?_ 0 _ rfl; (with_reducible repeat (first | refine blk_drewN ?_ _ | refine blk_drew ?_ | refine blk_alloc ?_ _)); exact BK119.out) Try.underlying55 rfl (by kernel_rfl)) rfl ?_
           exact ⟨by first | rfl | (simp [errW_none, errW_some] <;> rfl) | (simp only [← hji9]; first | rfl | (simp [errW_none, errW_some] <;> rfl)) | (simp [*, errW_none, errW_some] <;> rfl), by repeat (first | (with_reducible first | exact HB.out | apply below_alloc | apply pw_below_drewN | apply below_drew1 | refine below_set ?_ GE119.out | refine below_set ?_ GE120.out | refine below_set ?_ GE122.out) | exact HB.out)⟩
         ·
          rw [if_neg c114] at H
          have c114b0 : (t131 == 0) = false := beq_eq_false_iff_ne.mpr c114
          have c114b1 : (t131 != 0) = true := bne_iff_ne.mpr c114
          simp only [Option.some.injEq, Prod.mk.injEq] at H
          obtain ⟨rfl, rfl, rfl, rfl, rfl, rfl⟩ := H
          have hnb131 := NB122_119.out
          have hnc131 := NB119_122.out
          have hnb132 := NB122_120.out
          have hnc132 := NB120_122.out
          have hcz133_0 : wc.cell? ⟨gb122, 0, none⟩ = some (.bool (form_a (ji9))) := (blk_cell BK122.out 0).trans rfl
          have hcz133_1 : wc.cell? ⟨gb122, 1, none⟩ = some (.bool (form_b (ji9))) := (blk_cell BK122.out 1).trans rfl
          have hcz133_2 : wc.cell? ⟨gb122, 2, none⟩ = some (.bool (form_c (ji9))) := (blk_cell BK122.out 2).trans rfl
          have hcz133_3 : wc.cell? ⟨gb122, 3, none⟩ = some (.int .i64 (form_w (ji9))) := (blk_cell BK122.out 3).trans rfl
          have hcz133_4 : wc.cell? ⟨gb122, 4, none⟩ = some (.bool (form_p (ji9))) := (blk_cell BK122.out 4).trans rfl
          have hfz133_0 := blk_frozen BK122.out 0
          have hfz133_1 := blk_frozen BK122.out 1
          have hfz133_2 := blk_frozen BK122.out 2
          have hfz133_3 := blk_frozen BK122.out 3
          have hfz133_4 := blk_frozen BK122.out 4
          have hnb134 := NB120_119.out
          have hnc134 := NB119_120.out
          have hcz135_0 : wc.cell? ⟨gb120, 0, none⟩ = some (.int .i64 ji9) := (blk_cell BK120.out 0).trans rfl
          have hcz135_1 : wc.cell? ⟨gb120, 1, none⟩ = some (.int .i64 x121001_11) := (blk_cell BK120.out 1).trans rfl
          have hcz135_2 : wc.cell? ⟨gb120, 2, none⟩ = some (.int .i64 x121002_11) := (blk_cell BK120.out 2).trans rfl
          have hcz135_3 : wc.cell? ⟨gb120, 3, none⟩ = some (.int .i64 0) := (blk_cell BK120.out 3).trans rfl
          have hcz135_4 : wc.cell? ⟨gb120, 4, none⟩ = some (.int .i64 0) := (blk_cell BK120.out 4).trans rfl
          have hfz135_0 := blk_frozen BK120.out 0
          have hfz135_1 := blk_frozen BK120.out 1
          have hfz135_2 := blk_frozen BK120.out 2
          have hfz135_3 := blk_frozen BK120.out 3
          have hfz135_4 := blk_frozen BK120.out 4
          go_wp2_with (first | ((with_reducible refine gate_callee (f := 57) rfl ?_); refine goesL_ (some 58) rfl rfl Try.func57 (by kernel_rfl) rfl #[.agg #[.int .i64 ji9, .int .i64 x121001_11, .int .i64 x121002_11, .int .i64 0, .int .i64 0]] rfl (by (try simp only [List.map_toArray, List.map_cons, List.map_nil]); first | done | (simp only [hji9]; rfl) | rfl | (simp only [List.length_drop, List.length_take]; rfl)) ?_; (with_reducible refine (code_Put.calls kj11 ji9 x121001_11 x121002_11 0 0 t130 t131 _ A113.out).mono ?_); rintro e w136 ⟨rfl, hb⟩; refine ⟨_, rfl, ?_⟩; have n0_ := Aside0.mk (blk_below (g := gb119) (o := .cells #[.int .i64 0, .int .i64 0, .int .i64 0, .int .i64 0, .int .i64 0] 55 (0, 0)) (by (with_reducible repeat (first | refine blk_drewN ?_ _ | refine blk_drew ?_ | refine blk_alloc ?_ _)); exact BK119.out) hb); have n1_ := Aside0.mk (blk_below (g := gb120) (o := .cells #[.int .i64 ji9, .int .i64 x121001_11, .int .i64 x121002_11, .int .i64 0, .int .i64 0] 55 (0, 0)) (by (with_reducible repeat (first | refine blk_drewN ?_ _ | refine blk_drew ?_ | refine blk_alloc ?_ _)); exact BK120.out) hb); have n2_ := Aside0.mk (blk_below (g := gb122) (o := .cells #[.bool (form_a (ji9)), .bool (form_b (ji9)), .bool (form_c (ji9)), .int .i64 (form_w (ji9)), .bool (form_p (ji9))] 83 (0, 0)) (by (with_reducible repeat (first | refine blk_drewN ?_ _ | refine blk_drew ?_ | refine blk_alloc ?_ _)); exact BK122.out) hb); have n3_ := Aside0.mk (below_step (by repeat (first | (with_reducible first | exact HB.out | apply below_alloc | apply pw_below_drewN | apply below_drew1 | refine below_set ?_ GE119.out | refine below_set ?_ GE120.out | refine below_set ?_ GE122.out) | exact HB.out)) hb); clear BK119; clear BK120; clear BK122; clear HB; have BK119 := n0_; have BK120 := n1_; have BK122 := n2_; have HB := n3_; clear n0_ n1_ n2_ n3_; (try clear hb); (try clear hb2); (try clear hk); (try clear hi); have hcz137_0 : w136.cell? ⟨gb119, 0, none⟩ = some (.int .i64 0) := (blk_cell BK119.out 0).trans rfl; have hcz137_1 : w136.cell? ⟨gb119, 1, none⟩ = some (.int .i64 0) := (blk_cell BK119.out 1).trans rfl; have hcz137_2 : w136.cell? ⟨gb119, 2, none⟩ = some (.int .i64 0) := (blk_cell BK119.out 2).trans rfl; have hcz137_3 : w136.cell? ⟨gb119, 3, none⟩ = some (.int .i64 0) := (blk_cell BK119.out 3).trans rfl; have hcz137_4 : w136.cell? ⟨gb119, 4, none⟩ = some (.int .i64 0) := (blk_cell BK119.out 4).trans rfl; have hfz137_0 := blk_frozen BK119.out 0; have hfz137_1 := blk_frozen BK119.out 1; have hfz137_2 := blk_frozen BK119.out 2; have hfz137_3 := blk_frozen BK119.out 3; have hfz137_4 := blk_frozen BK119.out 4))
          refine bodyPost_ret (results_ct rfl _ _ gb119 55 #[.int .i64 0, .int .i64 0, .int .i64 0, .int .i64 0, .int .i64 0] (0, 0) _ rfl (by (with_reducible repeat (first | refine blk_drewN ?_ _ | refine blk_drew ?_ | refine blk_alloc ?_ _)); refine blk_put (cs := #[.int .i64 0, .int .i64 0, .int .i64 0, .int .i64 0, .int .i64 0]) ?_ 4 _ rfl; (with_reducible repeat (first | refine blk_drewN ?_ _ | refine blk_drew ?_ | refine blk_alloc ?_ _)); refine blk_put (cs := #[.int .i64 0, .int .i64 0, .int .i64 0, .int .i64 0, .int .i64 0]) ?_ 3 _ rfl; (with_reducible repeat (first | refine blk_drewN ?_ _ | refine blk_drew ?_ | refine blk_alloc ?_ _)); refine blk_put (cs := #[.int .i64 0, .int .i64 0, .int .i64 0, .int .i64 0, .int .i64 0]) ?_ 2 _ rfl; (with_reducible repeat (first | refine blk_drewN ?_ _ | refine blk_drew ?_ | refine blk_alloc ?_ _)); refine blk_put (cs := #[.int .i64 0, .int .i64 0, .int .i64 0, .int .i64 0, .int .i64 0]) ?_ 1 _ rfl; (with_reducible repeat (first | refine blk_drewN ?_ _ | refine blk_drew ?_ | refine blk_alloc ?_ _)); refine blk_put (cs := #[.int .i64 0, .int .i64 0, .int .i64 0, .int .i64 0, .int .i64 0]) ?_ 0 _ rfl; (with_reducible repeat (first | refine blk_drewN ?_ _ | refine blk_drew ?_ | refine blk_alloc ?_ _)); exact BK119.out) Try.underlying55 rfl (by kernel_rfl)) rfl ?_
          exact ⟨by first | rfl | (simp [errW_none, errW_some] <;> rfl) | (simp only [← hji9]; first | rfl | (simp [errW_none, errW_some] <;> rfl)) | (simp [*, errW_none, errW_some] <;> rfl), by repeat (first | (with_reducible first | exact HB.out | apply below_alloc | apply pw_below_drewN | apply below_drew1 | refine below_set ?_ GE119.out | refine below_set ?_ GE120.out | refine below_set ?_ GE122.out) | exact HB.out)⟩
   ·
    rw [if_neg c11] at H
    exact absurd H (by simp)
  ·
   rw [if_neg c10] at H
   exact absurd H (by simp)

end Go.Proofs.Ytcagccodmmcnfaa.Q
