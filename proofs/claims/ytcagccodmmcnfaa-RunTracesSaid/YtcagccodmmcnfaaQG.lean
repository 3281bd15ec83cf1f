-- Written by drv.py, a program of this session, over the kit's print, out of the translation. Not trusted: Lean checks it.
import Derived.Test.YtcagccodmmcnfaaQD0
import Derived.Test.YtcagccodmmcnfaaQA
import Derived.Test.YtcagccodmmcnfaaHforms
namespace Go.Proofs.Ytcagccodmmcnfaa.Q
open Go.RowKit Go.Proofs.YtcagccodmmcnfaaW.PrintWords Go.Proofs.YtcagccodmmcnfaaW.PrintLast Go.Proofs.YtcagccodmmcnfaaW.PrintMore
attribute [local go_sem] max2_int min2_int max_two min_two max_three min_three max_four min_four   -- for this text's walks alone
set_option linter.unusedVariables false
set_option linter.unusedSimpArgs false

attribute [local go_sem] run_index_arV84 run_field_form
theorem blkcG_5 {w : World} {g : Nat} {t : TypeId} {v0 v1 v2 v3 v4 : Value} (h : w.heap[g]? = some (.cells #[v0, v1, v2, v3, v4] t (0, 0))) : w.cell? ⟨g, 0, none⟩ = some v0 ∧ w.cell? ⟨g, 1, none⟩ = some v1 ∧ w.cell? ⟨g, 2, none⟩ = some v2 ∧ w.cell? ⟨g, 3, none⟩ = some v3 ∧ w.cell? ⟨g, 4, none⟩ = some v4 := ⟨(blk_cell h 0).trans rfl, (blk_cell h 1).trans rfl, (blk_cell h 2).trans rfl, (blk_cell h 3).trans rfl, (blk_cell h 4).trans rfl⟩
theorem blkfG_5 {w : World} {g : Nat} {t : TypeId} {cs : Array Value} (h : w.heap[g]? = some (.cells cs t (0, 0))) : w.frozen? ⟨g, 0, none⟩ = false ∧ w.frozen? ⟨g, 1, none⟩ = false ∧ w.frozen? ⟨g, 2, none⟩ = false ∧ w.frozen? ⟨g, 3, none⟩ = false ∧ w.frozen? ⟨g, 4, none⟩ = false := ⟨blk_frozen h 0, blk_frozen h 1, blk_frozen h 2, blk_frozen h 3, blk_frozen h 4⟩
set_option maxHeartbeats 8000000 in
set_option maxRecDepth 100000 in
theorem code_Get.calls (k : Nat) (a0 : Int) (r1 : Int) (r2 : Int) (r3 : Int) (r4 : Int) (r5 : Int) (r6 : Int) (w : World) (h : code_Get.f k a0 = some (r1, r2, r3, r4, r5, r6)) :
    Calls Try.prog 45 #[.int .u32 a0] w fun e w' => e = .returned (.tuple #[.agg #[.int .i64 r1, .int .i64 r2, .int .i64 r3, .int .i64 r4, .int .i64 r5], .int .i64 r6]) ∧ Below w.heap.size w w' := by
 have hu55 := Try.underlying55
 have hu83 := Try.underlying83
 have HB := Aside0.mk (Below.refl w.heap.size w)
 have H : (if (wrap64 (a0 / 16777216)) ≥ 26 then (some (0, 0, 0, 0, 0, 3)) else ((code_forms.f).bind fun t121 => (if 0 ≤ (wrap64 (a0 / 16777216)) then (if (wrap64 (a0 / 16777216)) < 26 then (if (form_w (wrap64 (a0 / 16777216))) < 24 then (code_Get.j0 k a0 (wrap64 (a0 / 16777216)) (wrap64 (Go.bits .and .u32 (a0 / 1048576) 15)) (wrap64 (Go.bits .and .u32 (a0 / 65536) 15)) 0 0 (form_a (wrap64 (a0 / 16777216))) (form_b (wrap64 (a0 / 16777216))) (form_c (wrap64 (a0 / 16777216))) (form_w (wrap64 (a0 / 16777216))) (form_p (wrap64 (a0 / 16777216)))) else (code_Get.j0 k a0 (wrap64 (a0 / 16777216)) 0 0 0 0 (form_a (wrap64 (a0 / 16777216))) (form_b (wrap64 (a0 / 16777216))) (form_c (wrap64 (a0 / 16777216))) (form_w (wrap64 (a0 / 16777216))) (form_p (wrap64 (a0 / 16777216))))) else (none)) else (none)))) = some (r1, r2, r3, r4, r5, r6) := h
 clear h
 by_cases c2 : (wrap64 (a0 / 16777216)) ≥ 26
 ·
  rw [if_pos c2] at H
  have c2b0 : decide (26 ≤ (wrap64 (a0 / 16777216))) = true := decide_eq_true c2
  clear c2
  simp only [Option.some.injEq, Prod.mk.injEq] at H
  obtain ⟨rfl, rfl, rfl, rfl, rfl, rfl⟩ := H
  go_enter Try.func45, Try.ntmps45
  go_wp2_with (first | ((with_reducible refine gate_dst (N := 2) rfl ?_); refine box_event ?hg (N := 2) ?hd (cs := #[.int .i64 0, .int .i64 0, .int .i64 0, .int .i64 0, .int .i64 0]) (t := 55) ?hr ?_; (case hd => rfl); (case hg => rfl); (case hr => first | (go_simp; done) | (go_simp; rfl)); intro gb119 hg w3 hbox hb; have n0_ := Aside0.mk (below_step (by apply_rules (transparency := .reducible) only [HB.out, below_alloc, pw_below_drewN, below_drew1]) hb); have n1_ := Aside0.mk (hbox); have n2_ := Aside0.mk ((by rw [hg]; exact (below_size (by apply_rules (transparency := .reducible) only [HB.out, below_alloc, pw_below_drewN, below_drew1])) : w.heap.size ≤ gb119)); have n3_ := Aside0.mk ((by rw [hg]; exact (below_size (by apply_rules (transparency := .reducible) only [HB.out, below_alloc, pw_below_drewN, below_drew1])) : w.heap.size ≤ gb119)); clear HB; have HB := n0_; have BK119 := n1_; have GW119 := n2_; have GE119 := n3_; clear n0_ n1_ n2_ n3_; clear hb hbox hg) | ((with_reducible refine gate_dst (N := 4) rfl ?_); refine box_event ?hg (N := 4) ?hd (cs := #[.int .i64 0, .int .i64 0, .int .i64 0, .int .i64 0, .int .i64 0]) (t := 55) ?hr ?_; (case hd => rfl); (case hg => rfl); (case hr => first | (go_simp; done) | (go_simp; rfl)); intro gb120 hg w4 hbox hb; have n0_ := Aside0.mk (blk_below (g := gb119) (o := .cells #[.int .i64 0, .int .i64 0, .int .i64 0, .int .i64 0, .int .i64 0] 55 (0, 0)) (by apply_rules (transparency := .reducible) only [blk_drewN, blk_drew, blk_alloc, BK119.out]) hb); have n1_ := Aside0.mk (below_step (by apply_rules (transparency := .reducible) only [HB.out, below_alloc, pw_below_drewN, below_drew1, below_set, GE119.out]) hb); have n2_ := Aside0.mk (hbox); have n3_ := Aside0.mk ((by rw [hg]; exact (below_size (by apply_rules (transparency := .reducible) only [HB.out, below_alloc, pw_below_drewN, below_drew1, below_set, GE119.out])) : w.heap.size ≤ gb120)); have n4_ := Aside0.mk ((by rw [hg]; exact (below_size (by apply_rules (transparency := .reducible) only [HB.out, below_alloc, pw_below_drewN, below_drew1, below_set, GE119.out])) : w.heap.size ≤ gb120)); have n5_ := Aside0.mk ((by rw [hg]; exact Nat.ne_of_lt (blk_lt (g := gb119) (o := .cells #[.int .i64 0, .int .i64 0, .int .i64 0, .int .i64 0, .int .i64 0] 55 (0, 0)) (by apply_rules (transparency := .reducible) only [blk_drewN, blk_drew, blk_alloc, BK119.out])) : gb119 ≠ gb120)); have n6_ := Aside0.mk ((by rw [hg]; exact Nat.ne_of_gt (blk_lt (g := gb119) (o := .cells #[.int .i64 0, .int .i64 0, .int .i64 0, .int .i64 0, .int .i64 0] 55 (0, 0)) (by apply_rules (transparency := .reducible) only [blk_drewN, blk_drew, blk_alloc, BK119.out])) : gb120 ≠ gb119)); clear BK119; clear HB; have BK119 := n0_; have HB := n1_; have BK120 := n2_; have GW120 := n3_; have GE120 := n4_; have NB119_120 := n5_; have NB120_119 := n6_; clear n0_ n1_ n2_ n3_ n4_ n5_ n6_; clear hb hbox hg; have hnb5 := NB120_119.out; have hnc5 := NB119_120.out; obtain ⟨hcz6_0, hcz6_1, hcz6_2, hcz6_3, hcz6_4⟩ := blkcG_5 BK120.out; obtain ⟨hfz6_0, hfz6_1, hfz6_2, hfz6_3, hfz6_4⟩ := blkfG_5 BK120.out; obtain ⟨hcz7_0, hcz7_1, hcz7_2, hcz7_3, hcz7_4⟩ := blkcG_5 BK119.out; obtain ⟨hfz7_0, hfz7_1, hfz7_2, hfz7_3, hfz7_4⟩ := blkfG_5 BK119.out))
  refine bodyPost_ret (results_ct rfl _ _ gb119 55 #[.int .i64 0, .int .i64 0, .int .i64 0, .int .i64 0, .int .i64 0] (0, 0) _ rfl (by (try apply_rules (transparency := .reducible) only [blk_drewN, blk_drew, blk_alloc]); refine blk_put (cs := #[.int .i64 0, .int .i64 0, .int .i64 0, .int .i64 0, .int .i64 0]) ?_ 4 _ rfl; refine blk_put (cs := #[.int .i64 0, .int .i64 0, .int .i64 0, .int .i64 0, .int .i64 0]) ?_ 3 _ rfl; refine blk_put (cs := #[.int .i64 0, .int .i64 0, .int .i64 0, .int .i64 0, .int .i64 0]) ?_ 2 _ rfl; refine blk_put (cs := #[.int .i64 0, .int .i64 0, .int .i64 0, .int .i64 0, .int .i64 0]) ?_ 1 _ rfl; refine blk_put (cs := #[.int .i64 0, .int .i64 0, .int .i64 0, .int .i64 0, .int .i64 0]) ?_ 0 _ rfl; (try apply_rules (transparency := .reducible) only [blk_drewN, blk_drew, blk_alloc]); refine blk_far ?_ NB119_120.out _; refine blk_far ?_ NB119_120.out _; refine blk_far ?_ NB119_120.out _; refine blk_far ?_ NB119_120.out _; refine blk_far ?_ NB119_120.out _; (try apply_rules (transparency := .reducible) only [blk_drewN, blk_drew, blk_alloc]); exact BK119.out) Try.underlying55 rfl (by kernel_rfl)) rfl ?_
  exact ⟨by first | rfl | (simp [errW_none, errW_some] <;> rfl) | (simp [*, errW_none, errW_some] <;> rfl), by apply_rules (transparency := .reducible) only [HB.out, below_alloc, pw_below_drewN, below_drew1, below_set, GE119.out, GE120.out]⟩
 ·
  rw [if_neg c2] at H
  have c2b0 : decide (26 ≤ (wrap64 (a0 / 16777216))) = false := decide_eq_false c2
  clear c2
  replace H := Option.bind_eq_some_iff.mp H
  obtain ⟨t121, A80, H⟩ := H
  try dsimp only at H
  have A8 := Aside0.mk A80
  clear A80
  obtain ⟨ji9, hji9⟩ : ∃ j_ : Int, (wrap64 (a0 / 16777216)) = j_ := ⟨_, rfl⟩
  replace H : (if 0 ≤ (ji9) then (if (ji9) < 26 then (if (form_w (ji9)) < 24 then (code_Get.j0 k a0 ji9 (wrap64 (Go.bits .and .u32 (a0 / 1048576) 15)) (wrap64 (Go.bits .and .u32 (a0 / 65536) 15)) 0 0 (form_a (ji9)) (form_b (ji9)) (form_c (ji9)) (form_w (ji9)) (form_p (ji9))) else (code_Get.j0 k a0 ji9 0 0 0 0 (form_a (ji9)) (form_b (ji9)) (form_c (ji9)) (form_w (ji9)) (form_p (ji9)))) else (none)) else (none)) = some (r1, r2, r3, r4, r5, r6) := by first | (rw [hji9] at H; exact H) | (simp only [hji9] at H ⊢; exact H)
  (try rw [hji9] at c2b0)
  (try rw [hji9] at A8)
  have hji9w : (IntKind.i64.wrap (a0 / 16777216)) = ji9 := (i64_w _).trans hji9
  by_cases c10 : 0 ≤ (ji9)
  case neg =>
   rw [if_neg c10] at H
   exact absurd H (by simp)

  rw [if_pos c10] at H
  have c10b0 : decide (0 ≤ (ji9)) = true := decide_eq_true c10
  clear c10
  by_cases c11 : (ji9) < 26
  case neg =>
   rw [if_neg c11] at H
   exact absurd H (by simp)
  rw [if_pos c11] at H
  have c11b0 : decide ((ji9) < 26) = true := decide_eq_true c11
  clear c11
  have HC12 := Aside0.mk H
  clear H
  go_enter Try.func45, Try.ntmps45
  try go_wp2_with (first | ((with_reducible refine gate_dst (N := 2) rfl ?_); refine box_event ?hg (N := 2) ?hd (cs := #[.int .i64 0, .int .i64 0, .int .i64 0, .int .i64 0, .int .i64 0]) (t := 55) ?hr ?_; (case hd => rfl); (case hg => rfl); (case hr => first | (go_simp; done) | (go_simp; rfl)); intro gb119 hg w13 hbox hb; have n0_ := Aside0.mk (below_step (by apply_rules (transparency := .reducible) only [HB.out, below_alloc, pw_below_drewN, below_drew1]) hb); have n1_ := Aside0.mk (hbox); have n2_ := Aside0.mk ((by rw [hg]; exact (below_size (by apply_rules (transparency := .reducible) only [HB.out, below_alloc, pw_below_drewN, below_drew1])) : w.heap.size ≤ gb119)); have n3_ := Aside0.mk ((by rw [hg]; exact (below_size (by apply_rules (transparency := .reducible) only [HB.out, below_alloc, pw_below_drewN, below_drew1])) : w.heap.size ≤ gb119)); clear HB; have HB := n0_; have BK119 := n1_; have GW119 := n2_; have GE119 := n3_; clear n0_ n1_ n2_ n3_; clear hb hbox hg) | ((with_reducible refine gate_dst (N := 4) rfl ?_); refine box_event ?hg (N := 4) ?hd (cs := #[.int .i64 0, .int .i64 0, .int .i64 0, .int .i64 0, .int .i64 0]) (t := 55) ?hr ?_; (case hd => rfl); (case hg => rfl); (case hr => first | (go_simp; done) | (go_simp; rfl)); intro gb120 hg w14 hbox hb; have n0_ := Aside0.mk (blk_below (g := gb119) (o := .cells #[.int .i64 0, .int .i64 0, .int .i64 0, .int .i64 0, .int .i64 0] 55 (0, 0)) (by apply_rules (transparency := .reducible) only [blk_drewN, blk_drew, blk_alloc, BK119.out]) hb); have n1_ := Aside0.mk (below_step (by apply_rules (transparency := .reducible) only [HB.out, below_alloc, pw_below_drewN, below_drew1, below_set, GE119.out]) hb); have n2_ := Aside0.mk (hbox); have n3_ := Aside0.mk ((by rw [hg]; exact (below_size (by apply_rules (transparency := .reducible) only [HB.out, below_alloc, pw_below_drewN, below_drew1, below_set, GE119.out])) : w.heap.size ≤ gb120)); have n4_ := Aside0.mk ((by rw [hg]; exact (below_size (by apply_rules (transparency := .reducible) only [HB.out, below_alloc, pw_below_drewN, below_drew1, below_set, GE119.out])) : w.heap.size ≤ gb120)); have n5_ := Aside0.mk ((by rw [hg]; exact Nat.ne_of_lt (blk_lt (g := gb119) (o := .cells #[.int .i64 0, .int .i64 0, .int .i64 0, .int .i64 0, .int .i64 0] 55 (0, 0)) (by apply_rules (transparency := .reducible) only [blk_drewN, blk_drew, blk_alloc, BK119.out])) : gb119 ≠ gb120)); have n6_ := Aside0.mk ((by rw [hg]; exact Nat.ne_of_gt (blk_lt (g := gb119) (o := .cells #[.int .i64 0, .int .i64 0, .int .i64 0, .int .i64 0, .int .i64 0] 55 (0, 0)) (by apply_rules (transparency := .reducible) only [blk_drewN, blk_drew, blk_alloc, BK119.out])) : gb120 ≠ gb119)); clear BK119; clear HB; have BK119 := n0_; have HB := n1_; have BK120 := n2_; have GW120 := n3_; have GE120 := n4_; have NB119_120 := n5_; have NB120_119 := n6_; clear n0_ n1_ n2_ n3_ n4_ n5_ n6_; clear hb hbox hg; have hnb15 := NB120_119.out; have hnc15 := NB119_120.out; obtain ⟨hcz16_0, hcz16_1, hcz16_2, hcz16_3, hcz16_4⟩ := blkcG_5 BK120.out; obtain ⟨hfz16_0, hfz16_1, hfz16_2, hfz16_3, hfz16_4⟩ := blkfG_5 BK120.out))
  obtain ⟨w17, hw17_⟩ : ∃ w_ : World, w_ = (((((w14.setCell ⟨gb120, 0, none⟩ (.int .i64 ji9)).setCell ⟨gb120, 1, none⟩ (.int .i64 0)).setCell ⟨gb120, 2, none⟩ (.int .i64 0)).setCell ⟨gb120, 3, none⟩ (.int .i64 0)).setCell ⟨gb120, 4, none⟩ (.int .i64 0)) := ⟨_, rfl⟩
  have n0_ : Aside0 (w17.heap[gb119]? = some (.cells #[.int .i64 0, .int .i64 0, .int .i64 0, .int .i64 0, .int .i64 0] 55 (0, 0))) := ⟨by rw [hw17_]; apply_rules (transparency := .reducible) only [blk_drewN, blk_drew, blk_alloc, blk_far, NB119_120.out, BK119.out]⟩
  have n1_ : Aside0 (w17.heap[gb120]? = some (.cells #[.int .i64 ji9, .int .i64 0, .int .i64 0, .int .i64 0, .int .i64 0] 55 (0, 0))) := ⟨by rw [hw17_]; (try apply_rules (transparency := .reducible) only [blk_drewN, blk_drew, blk_alloc]); refine blk_put (cs := #[.int .i64 ji9, .int .i64 0, .int .i64 0, .int .i64 0, .int .i64 0]) ?_ 4 _ rfl; refine blk_put (cs := #[.int .i64 ji9, .int .i64 0, .int .i64 0, .int .i64 0, .int .i64 0]) ?_ 3 _ rfl; refine blk_put (cs := #[.int .i64 ji9, .int .i64 0, .int .i64 0, .int .i64 0, .int .i64 0]) ?_ 2 _ rfl; refine blk_put (cs := #[.int .i64 ji9, .int .i64 0, .int .i64 0, .int .i64 0, .int .i64 0]) ?_ 1 _ rfl; refine blk_put (cs := #[.int .i64 0, .int .i64 0, .int .i64 0, .int .i64 0, .int .i64 0]) ?_ 0 _ rfl; (try apply_rules (transparency := .reducible) only [blk_drewN, blk_drew, blk_alloc]); exact BK120.out⟩
  have n2_ : Aside0 (Below w.heap.size w w17) := ⟨by rw [hw17_]; apply_rules (transparency := .reducible) only [HB.out, below_alloc, pw_below_drewN, below_drew1, below_set, GE119.out, GE120.out]⟩
  (try clear BK119)
  (try clear BK120)
  (try clear HB)
  (try rw [← hw17_])
  clear hw17_
  have BK119 := n0_
  have BK120 := n1_
  have HB := n2_
  clear n0_ n1_ n2_
  have n0_ := Aside0.mk (blk_drew BK119.out)
  have n1_ := Aside0.mk (blk_drew BK120.out)
  have n2_ := Aside0.mk (below_drew1 HB.out)
  clear BK119
  clear BK120
  clear HB
  have BK119 := n0_
  have BK120 := n1_
  have HB := n2_
  clear n0_ n1_ n2_
  refine start_ (n := 6) (S := fun w' => w'.cell? ⟨gb120, 0, none⟩ = some (.int .i64 ji9) ∧ w'.cell? ⟨gb120, 1, none⟩ = some (.int .i64 0) ∧ w'.cell? ⟨gb120, 2, none⟩ = some (.int .i64 0) ∧ w'.cell? ⟨gb120, 3, none⟩ = some (.int .i64 0) ∧ w'.cell? ⟨gb120, 4, none⟩ = some (.int .i64 0)) (ds := []) #[false, false, false, false, false, false] (by kernel_rfl) rfl rfl ⟨(blk_cell BK120.out 0).trans rfl, (blk_cell BK120.out 1).trans rfl, (blk_cell BK120.out 2).trans rfl, (blk_cell BK120.out 3).trans rfl, (blk_cell BK120.out 4).trans rfl⟩ (fun hHeld => ?_)
  generalize w17.drew = w18 at BK119 BK120 HB hHeld ⊢
  refine pure_ (i := 1) (N := some 17) (v := ?_) (a' := ?_) #[false, true, false, false, false, false] rfl rfl (by kernel_rfl) (fun _ _ _ h => h) (Or.inl ⟨by rfl, ?_⟩) ?_ ?_
  rotate_left
  ·
   intro w'
   go_simp
   with_reducible rfl
  rotate_left
  ·
   simp only [Act.put, List.setIfInBounds_toArray, List.set_cons_zero, List.set_cons_succ, i64_w, i32_w]
   rfl
  refine take_ (i := 2) (N := some 18) (v := ?_) (a' := ?_) #[false, true, true, false, false, false] rfl rfl (by kernel_rfl) (fun _ _ _ h => h) (Or.inl ⟨by rfl, ?_⟩) hHeld ?_ ?_
  rotate_left
  ·
   rintro w' ⟨s0, s1, s2, s3, s4⟩
   go_simp
   with_reducible rfl
  rotate_left
  ·
   simp only [Act.put, List.setIfInBounds_toArray, List.set_cons_zero, List.set_cons_succ, i64_w, i32_w]
   rfl
  refine join_ (σ := Nat) 1 #[true, true, true, true, true, false] (fun s_ => [(16, arV84 t121), (5, .pointer (some ⟨s_, 0, none⟩)), (19, .agg #[.bool (form_a (ji9)), .bool (form_b (ji9)), .bool (form_c (ji9)), .int .i64 (form_w (ji9)), .bool (form_p (ji9))])]) (fun s_ w' => (w'.cell? ⟨gb120, 0, none⟩ = some (.int .i64 ji9) ∧ w'.cell? ⟨gb120, 1, none⟩ = some (.int .i64 0) ∧ w'.cell? ⟨gb120, 2, none⟩ = some (.int .i64 0) ∧ w'.cell? ⟨gb120, 3, none⟩ = some (.int .i64 0) ∧ w'.cell? ⟨gb120, 4, none⟩ = some (.int .i64 0)) ∧ (w'.heap[gb119]? = some (.cells #[.int .i64 0, .int .i64 0, .int .i64 0, .int .i64 0, .int .i64 0] 55 (0, 0))) ∧ (w'.heap[gb120]? = some (.cells #[.int .i64 ji9, .int .i64 0, .int .i64 0, .int .i64 0, .int .i64 0] 55 (0, 0))) ∧ (w'.heap[s_]? = some (.cells #[.bool false, .bool false, .bool false, .int .i64 0, .bool false] 83 (0, 0))) ∧ (w.heap.size ≤ s_) ∧ (w.heap.size ≤ s_) ∧ (gb119 ≠ s_) ∧ (s_ ≠ gb119) ∧ (gb120 ≠ s_) ∧ (s_ ≠ gb120) ∧ (Below w.heap.size w w')) ?_ ?_
  rotate_left
  ·
   intro hCont
   refine two_ (i := 0) (j := 4) (Ni := some 16) (Nj := some 5) #[true, true, true, false, false, false] #[false, true, true, false, true, false] rfl rfl rfl rfl (by kernel_rfl) (by decide) (by decide) (fun K hK => ?_) (fun K hK => ?_)
   ·
    skip
    refine goes_ Try.func55 (by kernel_rfl) rfl #[] (by rfl) rfl rfl (by (try simp only [List.map_toArray, List.map_cons, List.map_nil]); first | done | rfl | (simp only [List.length_drop, List.length_take]; rfl)) ?_
    with_reducible refine (code_forms.calls  t121 _ A8.out).mono ?_
    rintro e w19 ⟨rfl, hb⟩
    refine ⟨_, rfl, ?_⟩
    have n0_ := Aside0.mk (blk_below (g := gb119) (o := .cells #[.int .i64 0, .int .i64 0, .int .i64 0, .int .i64 0, .int .i64 0] 55 (0, 0)) (by apply_rules (transparency := .reducible) only [blk_drewN, blk_drew, blk_alloc, BK119.out]) hb)
    have n1_ := Aside0.mk (blk_below (g := gb120) (o := .cells #[.int .i64 ji9, .int .i64 0, .int .i64 0, .int .i64 0, .int .i64 0] 55 (0, 0)) (by apply_rules (transparency := .reducible) only [blk_drewN, blk_drew, blk_alloc, BK120.out]) hb)
    have n2_ := Aside0.mk (below_step (by apply_rules (transparency := .reducible) only [HB.out, below_alloc, pw_below_drewN, below_drew1, below_set, GE119.out, GE120.out]) hb)
    clear BK119
    clear BK120
    clear HB
    have BK119 := n0_
    have BK120 := n1_
    have HB := n2_
    clear n0_ n1_ n2_
    (try clear hb)
    (try clear hb2)
    (try clear hk)
    (try clear hi)
    refine hK.out _ _ ⟨(blk_cell BK120.out 0).trans rfl, (blk_cell BK120.out 1).trans rfl, (blk_cell BK120.out 2).trans rfl, (blk_cell BK120.out 3).trans rfl, (blk_cell BK120.out 4).trans rfl⟩ (fun hHeld => ?_)
    clear hK K
    refine norm_ (a' := ?_) ?_ ?_
    rotate_left
    ·
     show Act.put _ (some 16) _ = _
     simp only [Act.put, List.setIfInBounds_toArray, List.set_cons_zero, List.set_cons_succ, i64_w, i32_w]
     rfl
    refine take_ (i := 3) (N := some 19) (v := ?_) (a' := ?_) #[true, true, true, true, false, false] rfl rfl (by kernel_rfl) (fun _ _ _ h => h) (Or.inl ⟨by rfl, ?_⟩) hHeld ?_ ?_
    rotate_left
    ·
     rintro w' ⟨s0, s1, s2, s3, s4⟩
     go_simp
     with_reducible rfl
    rotate_left
    ·
     simp only [Act.put, List.setIfInBounds_toArray, List.set_cons_zero, List.set_cons_succ, i64_w, i32_w]
     rfl
    refine one_ (i := 4) (N := some 5) #[true, true, true, true, true, false] rfl rfl (by kernel_rfl) (by decide) (fun K hK => ?_)
    refine box_step ?hg (N := 5) ?hd (cs := #[.bool false, .bool false, .bool false, .int .i64 0, .bool false]) (t := 83) ?hr ?_; (case hd => rfl); (case hg => rfl); (case hr => first | (go_simp; done) | (go_simp; rfl))
    intro gb122 hg w20 hbox hb
    have n0_ := Aside0.mk (blk_below (g := gb119) (o := .cells #[.int .i64 0, .int .i64 0, .int .i64 0, .int .i64 0, .int .i64 0] 55 (0, 0)) (by apply_rules (transparency := .reducible) only [blk_drewN, blk_drew, blk_alloc, BK119.out]) hb)
    have n1_ := Aside0.mk (blk_below (g := gb120) (o := .cells #[.int .i64 ji9, .int .i64 0, .int .i64 0, .int .i64 0, .int .i64 0] 55 (0, 0)) (by apply_rules (transparency := .reducible) only [blk_drewN, blk_drew, blk_alloc, BK120.out]) hb)
    have n2_ := Aside0.mk (below_step (by apply_rules (transparency := .reducible) only [HB.out, below_alloc, pw_below_drewN, below_drew1, below_set, GE119.out, GE120.out]) hb)
    have n3_ := Aside0.mk (hbox)
    have n4_ := Aside0.mk ((by rw [hg]; exact (below_size (by apply_rules (transparency := .reducible) only [HB.out, below_alloc, pw_below_drewN, below_drew1, below_set, GE119.out, GE120.out])) : w.heap.size ≤ gb122))
    have n5_ := Aside0.mk ((by rw [hg]; exact (below_size (by apply_rules (transparency := .reducible) only [HB.out, below_alloc, pw_below_drewN, below_drew1, below_set, GE119.out, GE120.out])) : w.heap.size ≤ gb122))
    have n6_ := Aside0.mk ((by rw [hg]; exact Nat.ne_of_lt (blk_lt (g := gb119) (o := .cells #[.int .i64 0, .int .i64 0, .int .i64 0, .int .i64 0, .int .i64 0] 55 (0, 0)) (by apply_rules (transparency := .reducible) only [blk_drewN, blk_drew, blk_alloc, BK119.out])) : gb119 ≠ gb122))
    have n7_ := Aside0.mk ((by rw [hg]; exact Nat.ne_of_gt (blk_lt (g := gb119) (o := .cells #[.int .i64 0, .int .i64 0, .int .i64 0, .int .i64 0, .int .i64 0] 55 (0, 0)) (by apply_rules (transparency := .reducible) only [blk_drewN, blk_drew, blk_alloc, BK119.out])) : gb122 ≠ gb119))
    have n8_ := Aside0.mk ((by rw [hg]; exact Nat.ne_of_lt (blk_lt (g := gb120) (o := .cells #[.int .i64 ji9, .int .i64 0, .int .i64 0, .int .i64 0, .int .i64 0] 55 (0, 0)) (by apply_rules (transparency := .reducible) only [blk_drewN, blk_drew, blk_alloc, BK120.out])) : gb120 ≠ gb122))
    have n9_ := Aside0.mk ((by rw [hg]; exact Nat.ne_of_gt (blk_lt (g := gb120) (o := .cells #[.int .i64 ji9, .int .i64 0, .int .i64 0, .int .i64 0, .int .i64 0] 55 (0, 0)) (by apply_rules (transparency := .reducible) only [blk_drewN, blk_drew, blk_alloc, BK120.out])) : gb122 ≠ gb120))
    clear BK119
    clear BK120
    clear HB
    have BK119 := n0_
    have BK120 := n1_
    have HB := n2_
    have BK122 := n3_
    have GW122 := n4_
    have GE122 := n5_
    have NB119_122 := n6_
    have NB122_119 := n7_
    have NB120_122 := n8_
    have NB122_120 := n9_
    clear n0_ n1_ n2_ n3_ n4_ n5_ n6_ n7_ n8_ n9_
    clear hb hbox hg
    refine hK.out _ _ ⟨(blk_cell BK120.out 0).trans rfl, (blk_cell BK120.out 1).trans rfl, (blk_cell BK120.out 2).trans rfl, (blk_cell BK120.out 3).trans rfl, (blk_cell BK120.out 4).trans rfl⟩ (fun hHeld => ?_)
    clear hK K
    refine norm_ (a' := ?_) ?_ ?_
    rotate_left
    ·
     show Act.put _ (some 5) _ = _
     simp only [Act.put, List.setIfInBounds_toArray, List.set_cons_zero, List.set_cons_succ, i64_w, i32_w]
     rfl
    exact norm_ (by simp only [putAll, Act.put, List.setIfInBounds_toArray, List.set_cons_zero, List.set_cons_succ]) (hCont (gb122) _ ⟨hHeld, (by apply_rules (transparency := .reducible) only [blk_drewN, blk_drew, blk_alloc, BK119.out]), (by apply_rules (transparency := .reducible) only [blk_drewN, blk_drew, blk_alloc, BK120.out]), (by apply_rules (transparency := .reducible) only [blk_drewN, blk_drew, blk_alloc, BK122.out]), GW122.out, GE122.out, NB119_122.out, NB122_119.out, NB120_122.out, NB122_120.out, (by apply_rules (transparency := .reducible) only [HB.out, below_alloc, pw_below_drewN, below_drew1, below_set, GE119.out, GE120.out, GE122.out])⟩)
   ·
    skip
    refine box_step ?hg (N := 5) ?hd (cs := #[.bool false, .bool false, .bool false, .int .i64 0, .bool false]) (t := 83) ?hr ?_; (case hd => rfl); (case hg => rfl); (case hr => first | (go_simp; done) | (go_simp; rfl))
    intro gb122 hg w19 hbox hb
    have n0_ := Aside0.mk (blk_below (g := gb119) (o := .cells #[.int .i64 0, .int .i64 0, .int .i64 0, .int .i64 0, .int .i64 0] 55 (0, 0)) (by apply_rules (transparency := .reducible) only [blk_drewN, blk_drew, blk_alloc, BK119.out]) hb)
    have n1_ := Aside0.mk (blk_below (g := gb120) (o := .cells #[.int .i64 ji9, .int .i64 0, .int .i64 0, .int .i64 0, .int .i64 0] 55 (0, 0)) (by apply_rules (transparency := .reducible) only [blk_drewN, blk_drew, blk_alloc, BK120.out]) hb)
    have n2_ := Aside0.mk (below_step (by apply_rules (transparency := .reducible) only [HB.out, below_alloc, pw_below_drewN, below_drew1, below_set, GE119.out, GE120.out]) hb)
    have n3_ := Aside0.mk (hbox)
    have n4_ := Aside0.mk ((by rw [hg]; exact (below_size (by apply_rules (transparency := .reducible) only [HB.out, below_alloc, pw_below_drewN, below_drew1, below_set, GE119.out, GE120.out])) : w.heap.size ≤ gb122))
    have n5_ := Aside0.mk ((by rw [hg]; exact (below_size (by apply_rules (transparency := .reducible) only [HB.out, below_alloc, pw_below_drewN, below_drew1, below_set, GE119.out, GE120.out])) : w.heap.size ≤ gb122))
    have n6_ := Aside0.mk ((by rw [hg]; exact Nat.ne_of_lt (blk_lt (g := gb119) (o := .cells #[.int .i64 0, .int .i64 0, .int .i64 0, .int .i64 0, .int .i64 0] 55 (0, 0)) (by apply_rules (transparency := .reducible) only [blk_drewN, blk_drew, blk_alloc, BK119.out])) : gb119 ≠ gb122))
    have n7_ := Aside0.mk ((by rw [hg]; exact Nat.ne_of_gt (blk_lt (g := gb119) (o := .cells #[.int .i64 0, .int .i64 0, .int .i64 0, .int .i64 0, .int .i64 0] 55 (0, 0)) (by apply_rules (transparency := .reducible) only [blk_drewN, blk_drew, blk_alloc, BK119.out])) : gb122 ≠ gb119))
    have n8_ := Aside0.mk ((by rw [hg]; exact Nat.ne_of_lt (blk_lt (g := gb120) (o := .cells #[.int .i64 ji9, .int .i64 0, .int .i64 0, .int .i64 0, .int .i64 0] 55 (0, 0)) (by apply_rules (transparency := .reducible) only [blk_drewN, blk_drew, blk_alloc, BK120.out])) : gb120 ≠ gb122))
    have n9_ := Aside0.mk ((by rw [hg]; exact Nat.ne_of_gt (blk_lt (g := gb120) (o := .cells #[.int .i64 ji9, .int .i64 0, .int .i64 0, .int .i64 0, .int .i64 0] 55 (0, 0)) (by apply_rules (transparency := .reducible) only [blk_drewN, blk_drew, blk_alloc, BK120.out])) : gb122 ≠ gb120))
    clear BK119
    clear BK120
    clear HB
    have BK119 := n0_
    have BK120 := n1_
    have HB := n2_
    have BK122 := n3_
    have GW122 := n4_
    have GE122 := n5_
    have NB119_122 := n6_
    have NB122_119 := n7_
    have NB120_122 := n8_
    have NB122_120 := n9_
    clear n0_ n1_ n2_ n3_ n4_ n5_ n6_ n7_ n8_ n9_
    clear hb hbox hg
    refine hK.out _ _ ⟨(blk_cell BK120.out 0).trans rfl, (blk_cell BK120.out 1).trans rfl, (blk_cell BK120.out 2).trans rfl, (blk_cell BK120.out 3).trans rfl, (blk_cell BK120.out 4).trans rfl⟩ (fun hHeld => ?_)
    clear hK K
    refine norm_ (a' := ?_) ?_ ?_
    rotate_left
    ·
     show Act.put _ (some 5) _ = _
     simp only [Act.put, List.setIfInBounds_toArray, List.set_cons_zero, List.set_cons_succ, i64_w, i32_w]
     rfl
    refine one_ (i := 0) (N := some 16) #[true, true, true, false, true, false] rfl rfl (by kernel_rfl) (by decide) (fun K hK => ?_)
    refine goes_ Try.func55 (by kernel_rfl) rfl #[] (by rfl) rfl rfl (by (try simp only [List.map_toArray, List.map_cons, List.map_nil]); first | done | rfl | (simp only [List.length_drop, List.length_take]; rfl)) ?_
    with_reducible refine (code_forms.calls  t121 _ A8.out).mono ?_
    rintro e w20 ⟨rfl, hb⟩
    refine ⟨_, rfl, ?_⟩
    have n0_ := Aside0.mk (blk_below (g := gb119) (o := .cells #[.int .i64 0, .int .i64 0, .int .i64 0, .int .i64 0, .int .i64 0] 55 (0, 0)) (by apply_rules (transparency := .reducible) only [blk_drewN, blk_drew, blk_alloc, BK119.out]) hb)
    have n1_ := Aside0.mk (blk_below (g := gb120) (o := .cells #[.int .i64 ji9, .int .i64 0, .int .i64 0, .int .i64 0, .int .i64 0] 55 (0, 0)) (by apply_rules (transparency := .reducible) only [blk_drewN, blk_drew, blk_alloc, BK120.out]) hb)
    have n2_ := Aside0.mk (blk_below (g := gb122) (o := .cells #[.bool false, .bool false, .bool false, .int .i64 0, .bool false] 83 (0, 0)) (by apply_rules (transparency := .reducible) only [blk_drewN, blk_drew, blk_alloc, BK122.out]) hb)
    have n3_ := Aside0.mk (below_step (by apply_rules (transparency := .reducible) only [HB.out, below_alloc, pw_below_drewN, below_drew1, below_set, GE119.out, GE120.out, GE122.out]) hb)
    clear BK119
    clear BK120
    clear BK122
    clear HB
    have BK119 := n0_
    have BK120 := n1_
    have BK122 := n2_
    have HB := n3_
    clear n0_ n1_ n2_ n3_
    (try clear hb)
    (try clear hb2)
    (try clear hk)
    (try clear hi)
    refine hK.out _ _ ⟨(blk_cell BK120.out 0).trans rfl, (blk_cell BK120.out 1).trans rfl, (blk_cell BK120.out 2).trans rfl, (blk_cell BK120.out 3).trans rfl, (blk_cell BK120.out 4).trans rfl⟩ (fun hHeld => ?_)
    clear hK K
    refine norm_ (a' := ?_) ?_ ?_
    rotate_left
    ·
     show Act.put _ (some 16) _ = _
     simp only [Act.put, List.setIfInBounds_toArray, List.set_cons_zero, List.set_cons_succ, i64_w, i32_w]
     rfl
    refine take_ (i := 3) (N := some 19) (v := ?_) (a' := ?_) #[true, true, true, true, true, false] rfl rfl (by kernel_rfl) (fun _ _ _ h => h) (Or.inl ⟨by rfl, ?_⟩) hHeld ?_ ?_
    rotate_left
    ·
     rintro w' ⟨s0, s1, s2, s3, s4⟩
     go_simp
     with_reducible rfl
    rotate_left
    ·
     simp only [Act.put, List.setIfInBounds_toArray, List.set_cons_zero, List.set_cons_succ, i64_w, i32_w]
     rfl
    exact norm_ (by simp only [putAll, Act.put, List.setIfInBounds_toArray, List.set_cons_zero, List.set_cons_succ]) (hCont (gb122) _ ⟨hHeld, (by apply_rules (transparency := .reducible) only [blk_drewN, blk_drew, blk_alloc, BK119.out]), (by apply_rules (transparency := .reducible) only [blk_drewN, blk_drew, blk_alloc, BK120.out]), (by apply_rules (transparency := .reducible) only [blk_drewN, blk_drew, blk_alloc, BK122.out]), GW122.out, GE122.out, NB119_122.out, NB122_119.out, NB120_122.out, NB122_120.out, (by apply_rules (transparency := .reducible) only [HB.out, below_alloc, pw_below_drewN, below_drew1, below_set, GE119.out, GE120.out, GE122.out])⟩)
  rintro gb122 w21 ⟨hS_, h0_, h1_, h2_, h3_, h4_, h5_, h6_, h7_, h8_, h9_⟩
  have n0_ : Aside0 (w21.heap[gb119]? = some (.cells #[.int .i64 0, .int .i64 0, .int .i64 0, .int .i64 0, .int .i64 0] 55 (0, 0))) := ⟨h0_⟩
  have n1_ : Aside0 (w21.heap[gb120]? = some (.cells #[.int .i64 ji9, .int .i64 0, .int .i64 0, .int .i64 0, .int .i64 0] 55 (0, 0))) := ⟨h1_⟩
  have n2_ : Aside0 (w21.heap[gb122]? = some (.cells #[.bool false, .bool false, .bool false, .int .i64 0, .bool false] 83 (0, 0))) := ⟨h2_⟩
  have n3_ : Aside0 (w.heap.size ≤ gb122) := ⟨h3_⟩
  have n4_ : Aside0 (w.heap.size ≤ gb122) := ⟨h4_⟩
  have n5_ : Aside0 (gb119 ≠ gb122) := ⟨h5_⟩
  have n6_ : Aside0 (gb122 ≠ gb119) := ⟨h6_⟩
  have n7_ : Aside0 (gb120 ≠ gb122) := ⟨h7_⟩
  have n8_ : Aside0 (gb122 ≠ gb120) := ⟨h8_⟩
  have n9_ : Aside0 (Below w.heap.size w w21) := ⟨h9_⟩
  clear BK119
  clear BK120
  clear HB
  clear h0_ h1_ h2_ h3_ h4_ h5_ h6_ h7_ h8_ h9_
  have BK119 := n0_
  have BK120 := n1_
  have BK122 := n2_
  have GW122 := n3_
  have GE122 := n4_
  have NB119_122 := n5_
  have NB122_119 := n6_
  have NB120_122 := n7_
  have NB122_120 := n8_
  have HB := n9_
  clear n0_ n1_ n2_ n3_ n4_ n5_ n6_ n7_ n8_ n9_
  have hHeld : w21.cell? ⟨gb120, 0, none⟩ = some (.int .i64 ji9) ∧ w21.cell? ⟨gb120, 1, none⟩ = some (.int .i64 0) ∧ w21.cell? ⟨gb120, 2, none⟩ = some (.int .i64 0) ∧ w21.cell? ⟨gb120, 3, none⟩ = some (.int .i64 0) ∧ w21.cell? ⟨gb120, 4, none⟩ = some (.int .i64 0) := hS_
  refine norm_ (a' := ?_) ?_ ?_
  rotate_left
  ·
   simp only [putAll, Act.put, List.setIfInBounds_toArray, List.set_cons_zero, List.set_cons_succ]
   rfl
  refine one_ (i := 5) (N := none) #[true, true, true, true, true, true] rfl rfl (by kernel_rfl) (by decide) (fun K hK => ?_)
  have hs22 : w21.cell? ⟨gb122, 0, none⟩ = some (.bool false) := (blk_cell BK122.out 0).trans rfl
  have hfs22 := blk_frozen BK122.out 0
  have hns22_0 := NB119_122.out
  have hns22_1 := NB120_122.out
  have hms22_0 := NB122_119.out
  have hms22_1 := NB122_120.out
  have hs23 : w21.cell? ⟨gb122, 1, none⟩ = some (.bool false) := (blk_cell BK122.out 1).trans rfl
  have hfs23 := blk_frozen BK122.out 1
  have hns23_0 := NB119_122.out
  have hns23_1 := NB120_122.out
  have hms23_0 := NB122_119.out
  have hms23_1 := NB122_120.out
  have hs24 : w21.cell? ⟨gb122, 2, none⟩ = some (.bool false) := (blk_cell BK122.out 2).trans rfl
  have hfs24 := blk_frozen BK122.out 2
  have hns24_0 := NB119_122.out
  have hns24_1 := NB120_122.out
  have hms24_0 := NB122_119.out
  have hms24_1 := NB122_120.out
  have hs25 : w21.cell? ⟨gb122, 3, none⟩ = some (.int .i64 0) := (blk_cell BK122.out 3).trans rfl
  have hfs25 := blk_frozen BK122.out 3
  have hns25_0 := NB119_122.out
  have hns25_1 := NB120_122.out
  have hms25_0 := NB122_119.out
  have hms25_1 := NB122_120.out
  have hs26 : w21.cell? ⟨gb122, 4, none⟩ = some (.bool false) := (blk_cell BK122.out 4).trans rfl
  have hfs26 := blk_frozen BK122.out 4
  have hns26_0 := NB119_122.out
  have hns26_1 := NB120_122.out
  have hms26_0 := NB122_119.out
  have hms26_1 := NB122_120.out
  refine skip_ (w1 := ?_) (by rfl) rfl ?_ ?_
  rotate_left
  ·
   go_simp
   rfl
  refine hK.out _ _ ⟨((cell_far (p := ⟨gb122, _, none⟩) NB120_122.out _).trans (((cell_far (p := ⟨gb122, _, none⟩) NB120_122.out _).trans (((cell_far (p := ⟨gb122, _, none⟩) NB120_122.out _).trans (((cell_far (p := ⟨gb122, _, none⟩) NB120_122.out _).trans (((cell_far (p := ⟨gb122, _, none⟩) NB120_122.out _).trans (hHeld.1)))))))))), ((cell_far (p := ⟨gb122, _, none⟩) NB120_122.out _).trans (((cell_far (p := ⟨gb122, _, none⟩) NB120_122.out _).trans (((cell_far (p := ⟨gb122, _, none⟩) NB120_122.out _).trans (((cell_far (p := ⟨gb122, _, none⟩) NB120_122.out _).trans (((cell_far (p := ⟨gb122, _, none⟩) NB120_122.out _).trans (hHeld.2.1)))))))))), ((cell_far (p := ⟨gb122, _, none⟩) NB120_122.out _).trans (((cell_far (p := ⟨gb122, _, none⟩) NB120_122.out _).trans (((cell_far (p := ⟨gb122, _, none⟩) NB120_122.out _).trans (((cell_far (p := ⟨gb122, _, none⟩) NB120_122.out _).trans (((cell_far (p := ⟨gb122, _, none⟩) NB120_122.out _).trans (hHeld.2.2.1)))))))))), ((cell_far (p := ⟨gb122, _, none⟩) NB120_122.out _).trans (((cell_far (p := ⟨gb122, _, none⟩) NB120_122.out _).trans (((cell_far (p := ⟨gb122, _, none⟩) NB120_122.out _).trans (((cell_far (p := ⟨gb122, _, none⟩) NB120_122.out _).trans (((cell_far (p := ⟨gb122, _, none⟩) NB120_122.out _).trans (hHeld.2.2.2.1)))))))))), ((cell_far (p := ⟨gb122, _, none⟩) NB120_122.out _).trans (((cell_far (p := ⟨gb122, _, none⟩) NB120_122.out _).trans (((cell_far (p := ⟨gb122, _, none⟩) NB120_122.out _).trans (((cell_far (p := ⟨gb122, _, none⟩) NB120_122.out _).trans (((cell_far (p := ⟨gb122, _, none⟩) NB120_122.out _).trans (hHeld.2.2.2.2))))))))))⟩ (fun hHeld => ?_)
  clear hK K
  refine done_ (by kernel_rfl) ?_
  have hnb27 := NB122_119.out
  have hnc27 := NB119_122.out
  have hnb28 := NB122_120.out
  have hnc28 := NB120_122.out
  obtain ⟨hcz29_0, hcz29_1, hcz29_2, hcz29_3, hcz29_4⟩ := blkcG_5 BK122.out
  obtain ⟨hfz29_0, hfz29_1, hfz29_2, hfz29_3, hfz29_4⟩ := blkfG_5 BK122.out
  go_upto_if 22 with (fail)
  go_cut [] (fun wc => ∃ (kq : Nat) (x121001_11 : Int) (x121002_11 : Int), Aside0 (code_Get.j0 kq a0 ji9 x121001_11 x121002_11 0 0 (form_a (ji9)) (form_b (ji9)) (form_c (ji9)) (form_w (ji9)) (form_p (ji9)) = some (r1, r2, r3, r4, r5, r6)) ∧ Aside0 (kq ≤ k) ∧ Aside0 (wc.heap[gb119]? = some (.cells #[.int .i64 0, .int .i64 0, .int .i64 0, .int .i64 0, .int .i64 0] 55 (0, 0))) ∧ Aside0 (wc.heap[gb120]? = some (.cells #[.int .i64 ji9, .int .i64 x121001_11, .int .i64 x121002_11, .int .i64 0, .int .i64 0] 55 (0, 0))) ∧ Aside0 (wc.heap[gb122]? = some (.cells #[.bool (form_a (ji9)), .bool (form_b (ji9)), .bool (form_c (ji9)), .int .i64 (form_w (ji9)), .bool (form_p (ji9))] 83 (0, 0))) ∧ Aside0 (Below w.heap.size w wc))
  case first =>
   have H := HC12.out
   clear HC12
   by_cases c30 : (form_w (ji9)) < 24
   ·
    rw [if_pos c30] at H
    have c30b0 : decide ((form_w (ji9)) < 24) = true := decide_eq_true c30
    clear c30
    (first | (generalize hb_ : decide ((form_w (ji9)) < 24) = bb_ at *; subst c30b0; have c30b0 := hb_; clear hb_) | rw [c30b0] | (simp only [i64_w, i32_w]; rw [c30b0]) | skip)
    have H' := Aside0.mk H
    clear H
    have hnb31 := NB120_119.out
    have hnc31 := NB119_120.out
    have hnb32 := NB120_122.out
    have hnc32 := NB122_120.out
    obtain ⟨hcz33_0, hcz33_1, hcz33_2, hcz33_3, hcz33_4⟩ := blkcG_5 BK120.out
    obtain ⟨hfz33_0, hfz33_1, hfz33_2, hfz33_3, hfz33_4⟩ := blkfG_5 BK120.out
    go_wp2
    go_meet
    case rel => exact ⟨_, (wrap64 (Go.bits .and .u32 (a0 / 1048576) 15)), (wrap64 (Go.bits .and .u32 (a0 / 65536) 15)), H', ⟨by first | omega | exact Nat.le_refl _⟩, ⟨by apply_rules (transparency := .reducible) only [blk_drewN, blk_drew, blk_alloc, blk_far, NB119_120.out, NB119_122.out, BK119.out]⟩, ⟨by (try apply_rules (transparency := .reducible) only [blk_drewN, blk_drew, blk_alloc]); refine blk_put (cs := #[.int .i64 ji9, .int .i64 (wrap64 (Go.bits .and .u32 (a0 / 1048576) 15)), .int .i64 0, .int .i64 0, .int .i64 0]) ?_ 2 _ rfl; refine blk_put (cs := #[.int .i64 ji9, .int .i64 0, .int .i64 0, .int .i64 0, .int .i64 0]) ?_ 1 _ rfl; (try apply_rules (transparency := .reducible) only [blk_drewN, blk_drew, blk_alloc]); refine blk_far ?_ NB120_122.out _; refine blk_far ?_ NB120_122.out _; refine blk_far ?_ NB120_122.out _; refine blk_far ?_ NB120_122.out _; refine blk_far ?_ NB120_122.out _; (try apply_rules (transparency := .reducible) only [blk_drewN, blk_drew, blk_alloc]); exact BK120.out⟩, ⟨by (try apply_rules (transparency := .reducible) only [blk_drewN, blk_drew, blk_alloc]); refine blk_far ?_ NB122_120.out _; refine blk_far ?_ NB122_120.out _; (try apply_rules (transparency := .reducible) only [blk_drewN, blk_drew, blk_alloc]); refine blk_put (cs := #[.bool (form_a (ji9)), .bool (form_b (ji9)), .bool (form_c (ji9)), .int .i64 (form_w (ji9)), .bool false]) ?_ 4 _ rfl; refine blk_put (cs := #[.bool (form_a (ji9)), .bool (form_b (ji9)), .bool (form_c (ji9)), .int .i64 0, .bool false]) ?_ 3 _ rfl; refine blk_put (cs := #[.bool (form_a (ji9)), .bool (form_b (ji9)), .bool false, .int .i64 0, .bool false]) ?_ 2 _ rfl; refine blk_put (cs := #[.bool (form_a (ji9)), .bool false, .bool false, .int .i64 0, .bool false]) ?_ 1 _ rfl; refine blk_put (cs := #[.bool false, .bool false, .bool false, .int .i64 0, .bool false]) ?_ 0 _ rfl; (try apply_rules (transparency := .reducible) only [blk_drewN, blk_drew, blk_alloc]); exact BK122.out⟩, ⟨by apply_rules (transparency := .reducible) only [HB.out, below_alloc, pw_below_drewN, below_drew1, below_set, GE119.out, GE120.out, GE122.out]⟩⟩
   ·
    rw [if_neg c30] at H
    have c30b0 : decide ((form_w (ji9)) < 24) = false := decide_eq_false c30
    clear c30
    (first | (generalize hb_ : decide ((form_w (ji9)) < 24) = bb_ at *; subst c30b0; have c30b0 := hb_; clear hb_) | rw [c30b0] | (simp only [i64_w, i32_w]; rw [c30b0]) | skip)
    have H' := Aside0.mk H
    clear H
    go_wp2
    go_meet
    case rel => exact ⟨_, (0), (0), H', ⟨by first | omega | exact Nat.le_refl _⟩, ⟨by apply_rules (transparency := .reducible) only [blk_drewN, blk_drew, blk_alloc, blk_far, NB119_122.out, BK119.out]⟩, ⟨by apply_rules (transparency := .reducible) only [blk_drewN, blk_drew, blk_alloc, blk_far, NB120_122.out, BK120.out]⟩, ⟨by (try apply_rules (transparency := .reducible) only [blk_drewN, blk_drew, blk_alloc]); refine blk_put (cs := #[.bool (form_a (ji9)), .bool (form_b (ji9)), .bool (form_c (ji9)), .int .i64 (form_w (ji9)), .bool false]) ?_ 4 _ rfl; refine blk_put (cs := #[.bool (form_a (ji9)), .bool (form_b (ji9)), .bool (form_c (ji9)), .int .i64 0, .bool false]) ?_ 3 _ rfl; refine blk_put (cs := #[.bool (form_a (ji9)), .bool (form_b (ji9)), .bool false, .int .i64 0, .bool false]) ?_ 2 _ rfl; refine blk_put (cs := #[.bool (form_a (ji9)), .bool false, .bool false, .int .i64 0, .bool false]) ?_ 1 _ rfl; refine blk_put (cs := #[.bool false, .bool false, .bool false, .int .i64 0, .bool false]) ?_ 0 _ rfl; (try apply_rules (transparency := .reducible) only [blk_drewN, blk_drew, blk_alloc]); exact BK122.out⟩, ⟨by apply_rules (transparency := .reducible) only [HB.out, below_alloc, pw_below_drewN, below_drew1, below_set, GE119.out, GE120.out, GE122.out]⟩⟩
  case rest =>
   clear HC12
   (try clear c1); (try clear c2); (try clear c2b0); (try clear p2); (try clear c3); (try clear c4); (try clear c5); (try clear p6); (try clear c10); (try clear c10b0); (try clear c11); (try clear c11b0); (try clear c15); (try clear c27); (try clear c28); (try clear c30); (try clear c30b0); (try clear c31); (try clear c32); (try clear hcz16_0); (try clear hcz16_1); (try clear hcz16_2); (try clear hcz16_3); (try clear hcz16_4); (try clear hcz29_0); (try clear hcz29_1); (try clear hcz29_2); (try clear hcz29_3); (try clear hcz29_4); (try clear hcz33_0); (try clear hcz33_1); (try clear hcz33_2); (try clear hcz33_3); (try clear hcz33_4); (try clear hcz6_0); (try clear hcz6_1); (try clear hcz6_2); (try clear hcz6_3); (try clear hcz6_4); (try clear hcz7_0); (try clear hcz7_1); (try clear hcz7_2); (try clear hcz7_3); (try clear hcz7_4); (try clear hfz16_0); (try clear hfz16_1); (try clear hfz16_2); (try clear hfz16_3); (try clear hfz16_4); (try clear hfz29_0); (try clear hfz29_1); (try clear hfz29_2); (try clear hfz29_3); (try clear hfz29_4); (try clear hfz33_0); (try clear hfz33_1); (try clear hfz33_2); (try clear hfz33_3); (try clear hfz33_4); (try clear hfz6_0); (try clear hfz6_1); (try clear hfz6_2); (try clear hfz6_3); (try clear hfz6_4); (try clear hfz7_0); (try clear hfz7_1); (try clear hfz7_2); (try clear hfz7_3); (try clear hfz7_4)
   obtain ⟨kq, x121001_11, x121002_11, HA, HJ11, BK119, BK120, BK122, HB⟩ := hcut
   cases kq with
   | zero => exact absurd HA.out (by simp [code_Get.j0])
   | succ kj11 =>
    have H := HA.out
    clear HA
    simp only [code_Get.j0] at H
    by_cases c34 : (form_c (ji9)) = true
    ·
     rw [if_pos c34] at H
     have c34b0 : (form_c (ji9)) = true := c34
     clear c34
     replace H := Option.bind_eq_some_iff.mp H
     obtain ⟨⟨t123, t124⟩, A350, H⟩ := H
     try dsimp only at H
     have A35 := Aside0.mk A350
     clear A350
     by_cases c36 : t124 = 0
     ·
      rw [if_pos c36] at H
      have c36b0 : (t124 == 0) = true := beq_iff_eq.mpr c36
      have c36b1 : (t124 != 0) = false := bne_eq_false_iff_eq.mpr c36
      clear c36
      by_cases c37 : t123 = a0
      ·
       rw [if_pos c37] at H
       have c37b0 : (t123 == a0) = true := beq_iff_eq.mpr c37
       have c37b1 : (t123 != a0) = false := bne_eq_false_iff_eq.mpr c37
       clear c37
       simp only [Option.some.injEq, Prod.mk.injEq] at H
       obtain ⟨rfl, rfl, rfl, rfl, rfl, rfl⟩ := H
       have hnb38 := NB122_119.out
       have hnc38 := NB119_122.out
       have hnb39 := NB122_120.out
       have hnc39 := NB120_122.out
       obtain ⟨hcz40_0, hcz40_1, hcz40_2, hcz40_3, hcz40_4⟩ := blkcG_5 BK122.out
       obtain ⟨hfz40_0, hfz40_1, hfz40_2, hfz40_3, hfz40_4⟩ := blkfG_5 BK122.out
       have hnb41 := NB120_119.out
       have hnc41 := NB119_120.out
       obtain ⟨hcz42_0, hcz42_1, hcz42_2, hcz42_3, hcz42_4⟩ := blkcG_5 BK120.out
       obtain ⟨hfz42_0, hfz42_1, hfz42_2, hfz42_3, hfz42_4⟩ := blkfG_5 BK120.out
       go_wp2_with (first | ((with_reducible refine gate_callee (f := 57) rfl ?_); refine goesL_ (some 58) rfl rfl Try.func57 (by kernel_rfl) rfl #[.agg #[.int .i64 ji9, .int .i64 x121001_11, .int .i64 x121002_11, .int .i64 (wrap64 (Go.bits .and .u32 a0 15)), .int .i64 0]] rfl (by (try simp only [List.map_toArray, List.map_cons, List.map_nil]); first | done | (simp only [hji9]; rfl) | rfl | (simp only [List.length_drop, List.length_take]; rfl)) ?_; (with_reducible refine (code_Put.calls kj11 ji9 x121001_11 x121002_11 (wrap64 (Go.bits .and .u32 a0 15)) 0 t123 t124 _ A35.out).mono ?_); rintro e w43 ⟨rfl, hb⟩; refine ⟨_, rfl, ?_⟩; have n0_ := Aside0.mk (blk_below (g := gb119) (o := .cells #[.int .i64 0, .int .i64 0, .int .i64 0, .int .i64 0, .int .i64 0] 55 (0, 0)) (by apply_rules (transparency := .reducible) only [blk_drewN, blk_drew, blk_alloc, blk_far, NB119_120.out, BK119.out]) hb); have n1_ := Aside0.mk (blk_below (g := gb120) (o := .cells #[.int .i64 ji9, .int .i64 x121001_11, .int .i64 x121002_11, .int .i64 (wrap64 (Go.bits .and .u32 a0 15)), .int .i64 0] 55 (0, 0)) (by (try apply_rules (transparency := .reducible) only [blk_drewN, blk_drew, blk_alloc]); refine blk_put (cs := #[.int .i64 ji9, .int .i64 x121001_11, .int .i64 x121002_11, .int .i64 0, .int .i64 0]) ?_ 3 _ rfl; (try apply_rules (transparency := .reducible) only [blk_drewN, blk_drew, blk_alloc]); exact BK120.out) hb); have n2_ := Aside0.mk (blk_below (g := gb122) (o := .cells #[.bool (form_a (ji9)), .bool (form_b (ji9)), .bool (form_c (ji9)), .int .i64 (form_w (ji9)), .bool (form_p (ji9))] 83 (0, 0)) (by apply_rules (transparency := .reducible) only [blk_drewN, blk_drew, blk_alloc, blk_far, NB122_120.out, BK122.out]) hb); have n3_ := Aside0.mk (below_step (by apply_rules (transparency := .reducible) only [HB.out, below_alloc, pw_below_drewN, below_drew1, below_set, GE119.out, GE120.out, GE122.out]) hb); clear BK119; clear BK120; clear BK122; clear HB; have BK119 := n0_; have BK120 := n1_; have BK122 := n2_; have HB := n3_; clear n0_ n1_ n2_ n3_; (try clear hb); (try clear hb2); (try clear hk); (try clear hi); obtain ⟨hcz44_0, hcz44_1, hcz44_2, hcz44_3, hcz44_4⟩ := blkcG_5 BK120.out; obtain ⟨hfz44_0, hfz44_1, hfz44_2, hfz44_3, hfz44_4⟩ := blkfG_5 BK120.out; obtain ⟨hcz45_0, hcz45_1, hcz45_2, hcz45_3, hcz45_4⟩ := blkcG_5 BK119.out; obtain ⟨hfz45_0, hfz45_1, hfz45_2, hfz45_3, hfz45_4⟩ := blkfG_5 BK119.out))
       refine bodyPost_ret (results_ct rfl _ _ gb119 55 #[.int .i64 ji9, .int .i64 x121001_11, .int .i64 x121002_11, .int .i64 (wrap64 (Go.bits .and .u32 a0 15)), .int .i64 0] (0, 0) _ rfl (by (try apply_rules (transparency := .reducible) only [blk_drewN, blk_drew, blk_alloc]); refine blk_put (cs := #[.int .i64 ji9, .int .i64 x121001_11, .int .i64 x121002_11, .int .i64 (wrap64 (Go.bits .and .u32 a0 15)), .int .i64 0]) ?_ 4 _ rfl; refine blk_put (cs := #[.int .i64 ji9, .int .i64 x121001_11, .int .i64 x121002_11, .int .i64 0, .int .i64 0]) ?_ 3 _ rfl; refine blk_put (cs := #[.int .i64 ji9, .int .i64 x121001_11, .int .i64 0, .int .i64 0, .int .i64 0]) ?_ 2 _ rfl; refine blk_put (cs := #[.int .i64 ji9, .int .i64 0, .int .i64 0, .int .i64 0, .int .i64 0]) ?_ 1 _ rfl; refine blk_put (cs := #[.int .i64 0, .int .i64 0, .int .i64 0, .int .i64 0, .int .i64 0]) ?_ 0 _ rfl; (try apply_rules (transparency := .reducible) only [blk_drewN, blk_drew, blk_alloc]); exact BK119.out) Try.underlying55 rfl (by kernel_rfl)) rfl ?_
       exact ⟨by first | rfl | (simp [errW_none, errW_some] <;> rfl) | (simp only [← hji9]; first | rfl | (simp [errW_none, errW_some] <;> rfl)) | (simp [*, errW_none, errW_some] <;> rfl), by apply_rules (transparency := .reducible) only [HB.out, below_alloc, pw_below_drewN, below_drew1, below_set, GE119.out, GE120.out, GE122.out]⟩
      ·
       rw [if_neg c37] at H
       have c37b0 : (t123 == a0) = false := beq_eq_false_iff_ne.mpr c37
       have c37b1 : (t123 != a0) = true := bne_iff_ne.mpr c37
       simp only [Option.some.injEq, Prod.mk.injEq] at H
       obtain ⟨rfl, rfl, rfl, rfl, rfl, rfl⟩ := H
       have hnb46 := NB122_119.out
       have hnc46 := NB119_122.out
       have hnb47 := NB122_120.out
       have hnc47 := NB120_122.out
       obtain ⟨hcz48_0, hcz48_1, hcz48_2, hcz48_3, hcz48_4⟩ := blkcG_5 BK122.out
       obtain ⟨hfz48_0, hfz48_1, hfz48_2, hfz48_3, hfz48_4⟩ := blkfG_5 BK122.out
       have hnb49 := NB120_119.out
       have hnc49 := NB119_120.out
       obtain ⟨hcz50_0, hcz50_1, hcz50_2, hcz50_3, hcz50_4⟩ := blkcG_5 BK120.out
       obtain ⟨hfz50_0, hfz50_1, hfz50_2, hfz50_3, hfz50_4⟩ := blkfG_5 BK120.out
       go_wp2_with (first | ((with_reducible refine gate_callee (f := 57) rfl ?_); refine goesL_ (some 58) rfl rfl Try.func57 (by kernel_rfl) rfl #[.agg #[.int .i64 ji9, .int .i64 x121001_11, .int .i64 x121002_11, .int .i64 (wrap64 (Go.bits .and .u32 a0 15)), .int .i64 0]] rfl (by (try simp only [List.map_toArray, List.map_cons, List.map_nil]); first | done | (simp only [hji9]; rfl) | rfl | (simp only [List.length_drop, List.length_take]; rfl)) ?_; (with_reducible refine (code_Put.calls kj11 ji9 x121001_11 x121002_11 (wrap64 (Go.bits .and .u32 a0 15)) 0 t123 t124 _ A35.out).mono ?_); rintro e w51 ⟨rfl, hb⟩; refine ⟨_, rfl, ?_⟩; have n0_ := Aside0.mk (blk_below (g := gb119) (o := .cells #[.int .i64 0, .int .i64 0, .int .i64 0, .int .i64 0, .int .i64 0] 55 (0, 0)) (by apply_rules (transparency := .reducible) only [blk_drewN, blk_drew, blk_alloc, blk_far, NB119_120.out, BK119.out]) hb); have n1_ := Aside0.mk (blk_below (g := gb120) (o := .cells #[.int .i64 ji9, .int .i64 x121001_11, .int .i64 x121002_11, .int .i64 (wrap64 (Go.bits .and .u32 a0 15)), .int .i64 0] 55 (0, 0)) (by (try apply_rules (transparency := .reducible) only [blk_drewN, blk_drew, blk_alloc]); refine blk_put (cs := #[.int .i64 ji9, .int .i64 x121001_11, .int .i64 x121002_11, .int .i64 0, .int .i64 0]) ?_ 3 _ rfl; (try apply_rules (transparency := .reducible) only [blk_drewN, blk_drew, blk_alloc]); exact BK120.out) hb); have n2_ := Aside0.mk (blk_below (g := gb122) (o := .cells #[.bool (form_a (ji9)), .bool (form_b (ji9)), .bool (form_c (ji9)), .int .i64 (form_w (ji9)), .bool (form_p (ji9))] 83 (0, 0)) (by apply_rules (transparency := .reducible) only [blk_drewN, blk_drew, blk_alloc, blk_far, NB122_120.out, BK122.out]) hb); have n3_ := Aside0.mk (below_step (by apply_rules (transparency := .reducible) only [HB.out, below_alloc, pw_below_drewN, below_drew1, below_set, GE119.out, GE120.out, GE122.out]) hb); clear BK119; clear BK120; clear BK122; clear HB; have BK119 := n0_; have BK120 := n1_; have BK122 := n2_; have HB := n3_; clear n0_ n1_ n2_ n3_; (try clear hb); (try clear hb2); (try clear hk); (try clear hi); obtain ⟨hcz52_0, hcz52_1, hcz52_2, hcz52_3, hcz52_4⟩ := blkcG_5 BK119.out; obtain ⟨hfz52_0, hfz52_1, hfz52_2, hfz52_3, hfz52_4⟩ := blkfG_5 BK119.out))
       refine bodyPost_ret (results_ct rfl _ _ gb119 55 #[.int .i64 0, .int .i64 0, .int .i64 0, .int .i64 0, .int .i64 0] (0, 0) _ rfl (by (try apply_rules (transparency := .reducible) only [blk_drewN, blk_drew, blk_alloc]); refine blk_put (cs := #[.int .i64 0, .int .i64 0, .int .i64 0, .int .i64 0, .int .i64 0]) ?_ 4 _ rfl; refine blk_put (cs := #[.int .i64 0, .int .i64 0, .int .i64 0, .int .i64 0, .int .i64 0]) ?_ 3 _ rfl; refine blk_put (cs := #[.int .i64 0, .int .i64 0, .int .i64 0, .int .i64 0, .int .i64 0]) ?_ 2 _ rfl; refine blk_put (cs := #[.int .i64 0, .int .i64 0, .int .i64 0, .int .i64 0, .int .i64 0]) ?_ 1 _ rfl; refine blk_put (cs := #[.int .i64 0, .int .i64 0, .int .i64 0, .int .i64 0, .int .i64 0]) ?_ 0 _ rfl; (try apply_rules (transparency := .reducible) only [blk_drewN, blk_drew, blk_alloc]); exact BK119.out) Try.underlying55 rfl (by kernel_rfl)) rfl ?_
       exact ⟨by first | rfl | (simp [errW_none, errW_some] <;> rfl) | (simp only [← hji9]; first | rfl | (simp [errW_none, errW_some] <;> rfl)) | (simp [*, errW_none, errW_some] <;> rfl), by apply_rules (transparency := .reducible) only [HB.out, below_alloc, pw_below_drewN, below_drew1, below_set, GE119.out, GE120.out, GE122.out]⟩
     ·
      rw [if_neg c36] at H
      have c36b0 : (t124 == 0) = false := beq_eq_false_iff_ne.mpr c36
      have c36b1 : (t124 != 0) = true := bne_iff_ne.mpr c36
      simp only [Option.some.injEq, Prod.mk.injEq] at H
      obtain ⟨rfl, rfl, rfl, rfl, rfl, rfl⟩ := H
      have hnb53 := NB122_119.out
      have hnc53 := NB119_122.out
      have hnb54 := NB122_120.out
      have hnc54 := NB120_122.out
      obtain ⟨hcz55_0, hcz55_1, hcz55_2, hcz55_3, hcz55_4⟩ := blkcG_5 BK122.out
      obtain ⟨hfz55_0, hfz55_1, hfz55_2, hfz55_3, hfz55_4⟩ := blkfG_5 BK122.out
      have hnb56 := NB120_119.out
      have hnc56 := NB119_120.out
      obtain ⟨hcz57_0, hcz57_1, hcz57_2, hcz57_3, hcz57_4⟩ := blkcG_5 BK120.out
      obtain ⟨hfz57_0, hfz57_1, hfz57_2, hfz57_3, hfz57_4⟩ := blkfG_5 BK120.out
      go_wp2_with (first | ((with_reducible refine gate_callee (f := 57) rfl ?_); refine goesL_ (some 58) rfl rfl Try.func57 (by kernel_rfl) rfl #[.agg #[.int .i64 ji9, .int .i64 x121001_11, .int .i64 x121002_11, .int .i64 (wrap64 (Go.bits .and .u32 a0 15)), .int .i64 0]] rfl (by (try simp only [List.map_toArray, List.map_cons, List.map_nil]); first | done | (simp only [hji9]; rfl) | rfl | (simp only [List.length_drop, List.length_take]; rfl)) ?_; (with_reducible refine (code_Put.calls kj11 ji9 x121001_11 x121002_11 (wrap64 (Go.bits .and .u32 a0 15)) 0 t123 t124 _ A35.out).mono ?_); rintro e w58 ⟨rfl, hb⟩; refine ⟨_, rfl, ?_⟩; have n0_ := Aside0.mk (blk_below (g := gb119) (o := .cells #[.int .i64 0, .int .i64 0, .int .i64 0, .int .i64 0, .int .i64 0] 55 (0, 0)) (by apply_rules (transparency := .reducible) only [blk_drewN, blk_drew, blk_alloc, blk_far, NB119_120.out, BK119.out]) hb); have n1_ := Aside0.mk (blk_below (g := gb120) (o := .cells #[.int .i64 ji9, .int .i64 x121001_11, .int .i64 x121002_11, .int .i64 (wrap64 (Go.bits .and .u32 a0 15)), .int .i64 0] 55 (0, 0)) (by (try apply_rules (transparency := .reducible) only [blk_drewN, blk_drew, blk_alloc]); refine blk_put (cs := #[.int .i64 ji9, .int .i64 x121001_11, .int .i64 x121002_11, .int .i64 0, .int .i64 0]) ?_ 3 _ rfl; (try apply_rules (transparency := .reducible) only [blk_drewN, blk_drew, blk_alloc]); exact BK120.out) hb); have n2_ := Aside0.mk (blk_below (g := gb122) (o := .cells #[.bool (form_a (ji9)), .bool (form_b (ji9)), .bool (form_c (ji9)), .int .i64 (form_w (ji9)), .bool (form_p (ji9))] 83 (0, 0)) (by apply_rules (transparency := .reducible) only [blk_drewN, blk_drew, blk_alloc, blk_far, NB122_120.out, BK122.out]) hb); have n3_ := Aside0.mk (below_step (by apply_rules (transparency := .reducible) only [HB.out, below_alloc, pw_below_drewN, below_drew1, below_set, GE119.out, GE120.out, GE122.out]) hb); clear BK119; clear BK120; clear BK122; clear HB; have BK119 := n0_; have BK120 := n1_; have BK122 := n2_; have HB := n3_; clear n0_ n1_ n2_ n3_; (try clear hb); (try clear hb2); (try clear hk); (try clear hi); obtain ⟨hcz59_0, hcz59_1, hcz59_2, hcz59_3, hcz59_4⟩ := blkcG_5 BK119.out; obtain ⟨hfz59_0, hfz59_1, hfz59_2, hfz59_3, hfz59_4⟩ := blkfG_5 BK119.out))
      refine bodyPost_ret (results_ct rfl _ _ gb119 55 #[.int .i64 0, .int .i64 0, .int .i64 0, .int .i64 0, .int .i64 0] (0, 0) _ rfl (by (try apply_rules (transparency := .reducible) only [blk_drewN, blk_drew, blk_alloc]); refine blk_put (cs := #[.int .i64 0, .int .i64 0, .int .i64 0, .int .i64 0, .int .i64 0]) ?_ 4 _ rfl; refine blk_put (cs := #[.int .i64 0, .int .i64 0, .int .i64 0, .int .i64 0, .int .i64 0]) ?_ 3 _ rfl; refine blk_put (cs := #[.int .i64 0, .int .i64 0, .int .i64 0, .int .i64 0, .int .i64 0]) ?_ 2 _ rfl; refine blk_put (cs := #[.int .i64 0, .int .i64 0, .int .i64 0, .int .i64 0, .int .i64 0]) ?_ 1 _ rfl; refine blk_put (cs := #[.int .i64 0, .int .i64 0, .int .i64 0, .int .i64 0, .int .i64 0]) ?_ 0 _ rfl; (try apply_rules (transparency := .reducible) only [blk_drewN, blk_drew, blk_alloc]); exact BK119.out) Try.underlying55 rfl (by kernel_rfl)) rfl ?_
      exact ⟨by first | rfl | (simp [errW_none, errW_some] <;> rfl) | (simp only [← hji9]; first | rfl | (simp [errW_none, errW_some] <;> rfl)) | (simp [*, errW_none, errW_some] <;> rfl), by apply_rules (transparency := .reducible) only [HB.out, below_alloc, pw_below_drewN, below_drew1, below_set, GE119.out, GE120.out, GE122.out]⟩
    ·
     rw [if_neg c34] at H
     have c34b0 : (form_c (ji9)) = false := by simpa using c34
     clear c34
     by_cases c60 : (form_p (ji9)) = true
     ·
      rw [if_pos c60] at H
      have c60b0 : (form_p (ji9)) = true := c60
      clear c60
      replace H := Option.bind_eq_some_iff.mp H
      obtain ⟨⟨t125, t126⟩, A610, H⟩ := H
      try dsimp only at H
      have A61 := Aside0.mk A610
      clear A610
      by_cases c62 : t126 = 0
      ·
       rw [if_pos c62] at H
       have c62b0 : (t126 == 0) = true := beq_iff_eq.mpr c62
       have c62b1 : (t126 != 0) = false := bne_eq_false_iff_eq.mpr c62
       clear c62
       by_cases c63 : t125 = a0
       ·
        rw [if_pos c63] at H
        have c63b0 : (t125 == a0) = true := beq_iff_eq.mpr c63
        have c63b1 : (t125 != a0) = false := bne_eq_false_iff_eq.mpr c63
        clear c63
        simp only [Option.some.injEq, Prod.mk.injEq] at H
        obtain ⟨rfl, rfl, rfl, rfl, rfl, rfl⟩ := H
        have hnb64 := NB122_119.out
        have hnc64 := NB119_122.out
        have hnb65 := NB122_120.out
        have hnc65 := NB120_122.out
        obtain ⟨hcz66_0, hcz66_1, hcz66_2, hcz66_3, hcz66_4⟩ := blkcG_5 BK122.out
        obtain ⟨hfz66_0, hfz66_1, hfz66_2, hfz66_3, hfz66_4⟩ := blkfG_5 BK122.out
        have hnb67 := NB120_119.out
        have hnc67 := NB119_120.out
        obtain ⟨hcz68_0, hcz68_1, hcz68_2, hcz68_3, hcz68_4⟩ := blkcG_5 BK120.out
        obtain ⟨hfz68_0, hfz68_1, hfz68_2, hfz68_3, hfz68_4⟩ := blkfG_5 BK120.out
        go_wp2_with (first | ((with_reducible refine gate_callee (f := 57) rfl ?_); refine goesL_ (some 58) rfl rfl Try.func57 (by kernel_rfl) rfl #[.agg #[.int .i64 ji9, .int .i64 x121001_11, .int .i64 x121002_11, .int .i64 0, .int .i64 (wrap64 (Go.bits .and .u32 a0 65535))]] rfl (by (try simp only [List.map_toArray, List.map_cons, List.map_nil]); first | done | (simp only [hji9]; rfl) | rfl | (simp only [List.length_drop, List.length_take]; rfl)) ?_; (with_reducible refine (code_Put.calls kj11 ji9 x121001_11 x121002_11 0 (wrap64 (Go.bits .and .u32 a0 65535)) t125 t126 _ A61.out).mono ?_); rintro e w69 ⟨rfl, hb⟩; refine ⟨_, rfl, ?_⟩; have n0_ := Aside0.mk (blk_below (g := gb119) (o := .cells #[.int .i64 0, .int .i64 0, .int .i64 0, .int .i64 0, .int .i64 0] 55 (0, 0)) (by apply_rules (transparency := .reducible) only [blk_drewN, blk_drew, blk_alloc, blk_far, NB119_120.out, BK119.out]) hb); have n1_ := Aside0.mk (blk_below (g := gb120) (o := .cells #[.int .i64 ji9, .int .i64 x121001_11, .int .i64 x121002_11, .int .i64 0, .int .i64 (wrap64 (Go.bits .and .u32 a0 65535))] 55 (0, 0)) (by (try apply_rules (transparency := .reducible) only [blk_drewN, blk_drew, blk_alloc]); refine blk_put (cs := #[.int .i64 ji9, .int .i64 x121001_11, .int .i64 x121002_11, .int .i64 0, .int .i64 0]) ?_ 4 _ rfl; (try apply_rules (transparency := .reducible) only [blk_drewN, blk_drew, blk_alloc]); exact BK120.out) hb); have n2_ := Aside0.mk (blk_below (g := gb122) (o := .cells #[.bool (form_a (ji9)), .bool (form_b (ji9)), .bool (form_c (ji9)), .int .i64 (form_w (ji9)), .bool (form_p (ji9))] 83 (0, 0)) (by apply_rules (transparency := .reducible) only [blk_drewN, blk_drew, blk_alloc, blk_far, NB122_120.out, BK122.out]) hb); have n3_ := Aside0.mk (below_step (by apply_rules (transparency := .reducible) only [HB.out, below_alloc, pw_below_drewN, below_drew1, below_set, GE119.out, GE120.out, GE122.out]) hb); clear BK119; clear BK120; clear BK122; clear HB; have BK119 := n0_; have BK120 := n1_; have BK122 := n2_; have HB := n3_; clear n0_ n1_ n2_ n3_; (try clear hb); (try clear hb2); (try clear hk); (try clear hi); obtain ⟨hcz70_0, hcz70_1, hcz70_2, hcz70_3, hcz70_4⟩ := blkcG_5 BK120.out; obtain ⟨hfz70_0, hfz70_1, hfz70_2, hfz70_3, hfz70_4⟩ := blkfG_5 BK120.out; obtain ⟨hcz71_0, hcz71_1, hcz71_2, hcz71_3, hcz71_4⟩ := blkcG_5 BK119.out; obtain ⟨hfz71_0, hfz71_1, hfz71_2, hfz71_3, hfz71_4⟩ := blkfG_5 BK119.out))
        refine bodyPost_ret (results_ct rfl _ _ gb119 55 #[.int .i64 ji9, .int .i64 x121001_11, .int .i64 x121002_11, .int .i64 0, .int .i64 (wrap64 (Go.bits .and .u32 a0 65535))] (0, 0) _ rfl (by (try apply_rules (transparency := .reducible) only [blk_drewN, blk_drew, blk_alloc]); refine blk_put (cs := #[.int .i64 ji9, .int .i64 x121001_11, .int .i64 x121002_11, .int .i64 0, .int .i64 0]) ?_ 4 _ rfl; refine blk_put (cs := #[.int .i64 ji9, .int .i64 x121001_11, .int .i64 x121002_11, .int .i64 0, .int .i64 0]) ?_ 3 _ rfl; refine blk_put (cs := #[.int .i64 ji9, .int .i64 x121001_11, .int .i64 0, .int .i64 0, .int .i64 0]) ?_ 2 _ rfl; refine blk_put (cs := #[.int .i64 ji9, .int .i64 0, .int .i64 0, .int .i64 0, .int .i64 0]) ?_ 1 _ rfl; refine blk_put (cs := #[.int .i64 0, .int .i64 0, .int .i64 0, .int .i64 0, .int .i64 0]) ?_ 0 _ rfl; (try apply_rules (transparency := .reducible) only [blk_drewN, blk_drew, blk_alloc]); exact BK119.out) Try.underlying55 rfl (by kernel_rfl)) rfl ?_
        exact ⟨by first | rfl | (simp [errW_none, errW_some] <;> rfl) | (simp only [← hji9]; first | rfl | (simp [errW_none, errW_some] <;> rfl)) | (simp [*, errW_none, errW_some] <;> rfl), by apply_rules (transparency := .reducible) only [HB.out, below_alloc, pw_below_drewN, below_drew1, below_set, GE119.out, GE120.out, GE122.out]⟩
       ·
        rw [if_neg c63] at H
        have c63b0 : (t125 == a0) = false := beq_eq_false_iff_ne.mpr c63
        have c63b1 : (t125 != a0) = true := bne_iff_ne.mpr c63
        simp only [Option.some.injEq, Prod.mk.injEq] at H
        obtain ⟨rfl, rfl, rfl, rfl, rfl, rfl⟩ := H
        have hnb72 := NB122_119.out
        have hnc72 := NB119_122.out
        have hnb73 := NB122_120.out
        have hnc73 := NB120_122.out
        obtain ⟨hcz74_0, hcz74_1, hcz74_2, hcz74_3, hcz74_4⟩ := blkcG_5 BK122.out
        obtain ⟨hfz74_0, hfz74_1, hfz74_2, hfz74_3, hfz74_4⟩ := blkfG_5 BK122.out
        have hnb75 := NB120_119.out
        have hnc75 := NB119_120.out
        obtain ⟨hcz76_0, hcz76_1, hcz76_2, hcz76_3, hcz76_4⟩ := blkcG_5 BK120.out
        obtain ⟨hfz76_0, hfz76_1, hfz76_2, hfz76_3, hfz76_4⟩ := blkfG_5 BK120.out
        go_wp2_with (first | ((with_reducible refine gate_callee (f := 57) rfl ?_); refine goesL_ (some 58) rfl rfl Try.func57 (by kernel_rfl) rfl #[.agg #[.int .i64 ji9, .int .i64 x121001_11, .int .i64 x121002_11, .int .i64 0, .int .i64 (wrap64 (Go.bits .and .u32 a0 65535))]] rfl (by (try simp only [List.map_toArray, List.map_cons, List.map_nil]); first | done | (simp only [hji9]; rfl) | rfl | (simp only [List.length_drop, List.length_take]; rfl)) ?_; (with_reducible refine (code_Put.calls kj11 ji9 x121001_11 x121002_11 0 (wrap64 (Go.bits .and .u32 a0 65535)) t125 t126 _ A61.out).mono ?_); rintro e w77 ⟨rfl, hb⟩; refine ⟨_, rfl, ?_⟩; have n0_ := Aside0.mk (blk_below (g := gb119) (o := .cells #[.int .i64 0, .int .i64 0, .int .i64 0, .int .i64 0, .int .i64 0] 55 (0, 0)) (by apply_rules (transparency := .reducible) only [blk_drewN, blk_drew, blk_alloc, blk_far, NB119_120.out, BK119.out]) hb); have n1_ := Aside0.mk (blk_below (g := gb120) (o := .cells #[.int .i64 ji9, .int .i64 x121001_11, .int .i64 x121002_11, .int .i64 0, .int .i64 (wrap64 (Go.bits .and .u32 a0 65535))] 55 (0, 0)) (by (try apply_rules (transparency := .reducible) only [blk_drewN, blk_drew, blk_alloc]); refine blk_put (cs := #[.int .i64 ji9, .int .i64 x121001_11, .int .i64 x121002_11, .int .i64 0, .int .i64 0]) ?_ 4 _ rfl; (try apply_rules (transparency := .reducible) only [blk_drewN, blk_drew, blk_alloc]); exact BK120.out) hb); have n2_ := Aside0.mk (blk_below (g := gb122) (o := .cells #[.bool (form_a (ji9)), .bool (form_b (ji9)), .bool (form_c (ji9)), .int .i64 (form_w (ji9)), .bool (form_p (ji9))] 83 (0, 0)) (by apply_rules (transparency := .reducible) only [blk_drewN, blk_drew, blk_alloc, blk_far, NB122_120.out, BK122.out]) hb); have n3_ := Aside0.mk (below_step (by apply_rules (transparency := .reducible) only [HB.out, below_alloc, pw_below_drewN, below_drew1, below_set, GE119.out, GE120.out, GE122.out]) hb); clear BK119; clear BK120; clear BK122; clear HB; have BK119 := n0_; have BK120 := n1_; have BK122 := n2_; have HB := n3_; clear n0_ n1_ n2_ n3_; (try clear hb); (try clear hb2); (try clear hk); (try clear hi); obtain ⟨hcz78_0, hcz78_1, hcz78_2, hcz78_3, hcz78_4⟩ := blkcG_5 BK119.out; obtain ⟨hfz78_0, hfz78_1, hfz78_2, hfz78_3, hfz78_4⟩ := blkfG_5 BK119.out))
        refine bodyPost_ret (results_ct rfl _ _ gb119 55 #[.int .i64 0, .int .i64 0, .int .i64 0, .int .i64 0, .int .i64 0] (0, 0) _ rfl (by (try apply_rules (transparency := .reducible) only [blk_drewN, blk_drew, blk_alloc]); refine blk_put (cs := #[.int .i64 0, .int .i64 0, .int .i64 0, .int .i64 0, .int .i64 0]) ?_ 4 _ rfl; refine blk_put (cs := #[.int .i64 0, .int .i64 0, .int .i64 0, .int .i64 0, .int .i64 0]) ?_ 3 _ rfl; refine blk_put (cs := #[.int .i64 0, .int .i64 0, .int .i64 0, .int .i64 0, .int .i64 0]) ?_ 2 _ rfl; refine blk_put (cs := #[.int .i64 0, .int .i64 0, .int .i64 0, .int .i64 0, .int .i64 0]) ?_ 1 _ rfl; refine blk_put (cs := #[.int .i64 0, .int .i64 0, .int .i64 0, .int .i64 0, .int .i64 0]) ?_ 0 _ rfl; (try apply_rules (transparency := .reducible) only [blk_drewN, blk_drew, blk_alloc]); exact BK119.out) Try.underlying55 rfl (by kernel_rfl)) rfl ?_
        exact ⟨by first | rfl | (simp [errW_none, errW_some] <;> rfl) | (simp only [← hji9]; first | rfl | (simp [errW_none, errW_some] <;> rfl)) | (simp [*, errW_none, errW_some] <;> rfl), by apply_rules (transparency := .reducible) only [HB.out, below_alloc, pw_below_drewN, below_drew1, below_set, GE119.out, GE120.out, GE122.out]⟩
      ·
       rw [if_neg c62] at H
       have c62b0 : (t126 == 0) = false := beq_eq_false_iff_ne.mpr c62
       have c62b1 : (t126 != 0) = true := bne_iff_ne.mpr c62
       simp only [Option.some.injEq, Prod.mk.injEq] at H
       obtain ⟨rfl, rfl, rfl, rfl, rfl, rfl⟩ := H
       have hnb79 := NB122_119.out
       have hnc79 := NB119_122.out
       have hnb80 := NB122_120.out
       have hnc80 := NB120_122.out
       obtain ⟨hcz81_0, hcz81_1, hcz81_2, hcz81_3, hcz81_4⟩ := blkcG_5 BK122.out
       obtain ⟨hfz81_0, hfz81_1, hfz81_2, hfz81_3, hfz81_4⟩ := blkfG_5 BK122.out
       have hnb82 := NB120_119.out
       have hnc82 := NB119_120.out
       obtain ⟨hcz83_0, hcz83_1, hcz83_2, hcz83_3, hcz83_4⟩ := blkcG_5 BK120.out
       obtain ⟨hfz83_0, hfz83_1, hfz83_2, hfz83_3, hfz83_4⟩ := blkfG_5 BK120.out
       go_wp2_with (first | ((with_reducible refine gate_callee (f := 57) rfl ?_); refine goesL_ (some 58) rfl rfl Try.func57 (by kernel_rfl) rfl #[.agg #[.int .i64 ji9, .int .i64 x121001_11, .int .i64 x121002_11, .int .i64 0, .int .i64 (wrap64 (Go.bits .and .u32 a0 65535))]] rfl (by (try simp only [List.map_toArray, List.map_cons, List.map_nil]); first | done | (simp only [hji9]; rfl) | rfl | (simp only [List.length_drop, List.length_take]; rfl)) ?_; (with_reducible refine (code_Put.calls kj11 ji9 x121001_11 x121002_11 0 (wrap64 (Go.bits .and .u32 a0 65535)) t125 t126 _ A61.out).mono ?_); rintro e w84 ⟨rfl, hb⟩; refine ⟨_, rfl, ?_⟩; have n0_ := Aside0.mk (blk_below (g := gb119) (o := .cells #[.int .i64 0, .int .i64 0, .int .i64 0, .int .i64 0, .int .i64 0] 55 (0, 0)) (by apply_rules (transparency := .reducible) only [blk_drewN, blk_drew, blk_alloc, blk_far, NB119_120.out, BK119.out]) hb); have n1_ := Aside0.mk (blk_below (g := gb120) (o := .cells #[.int .i64 ji9, .int .i64 x121001_11, .int .i64 x121002_11, .int .i64 0, .int .i64 (wrap64 (Go.bits .and .u32 a0 65535))] 55 (0, 0)) (by (try apply_rules (transparency := .reducible) only [blk_drewN, blk_drew, blk_alloc]); refine blk_put (cs := #[.int .i64 ji9, .int .i64 x121001_11, .int .i64 x121002_11, .int .i64 0, .int .i64 0]) ?_ 4 _ rfl; (try apply_rules (transparency := .reducible) only [blk_drewN, blk_drew, blk_alloc]); exact BK120.out) hb); have n2_ := Aside0.mk (blk_below (g := gb122) (o := .cells #[.bool (form_a (ji9)), .bool (form_b (ji9)), .bool (form_c (ji9)), .int .i64 (form_w (ji9)), .bool (form_p (ji9))] 83 (0, 0)) (by apply_rules (transparency := .reducible) only [blk_drewN, blk_drew, blk_alloc, blk_far, NB122_120.out, BK122.out]) hb); have n3_ := Aside0.mk (below_step (by apply_rules (transparency := .reducible) only [HB.out, below_alloc, pw_below_drewN, below_drew1, below_set, GE119.out, GE120.out, GE122.out]) hb); clear BK119; clear BK120; clear BK122; clear HB; have BK119 := n0_; have BK120 := n1_; have BK122 := n2_; have HB := n3_; clear n0_ n1_ n2_ n3_; (try clear hb); (try clear hb2); (try clear hk); (try clear hi); obtain ⟨hcz85_0, hcz85_1, hcz85_2, hcz85_3, hcz85_4⟩ := blkcG_5 BK119.out; obtain ⟨hfz85_0, hfz85_1, hfz85_2, hfz85_3, hfz85_4⟩ := blkfG_5 BK119.out))
       refine bodyPost_ret (results_ct rfl _ _ gb119 55 #[.int .i64 0, .int .i64 0, .int .i64 0, .int .i64 0, .int .i64 0] (0, 0) _ rfl (by (try apply_rules (transparency := .reducible) only [blk_drewN, blk_drew, blk_alloc]); refine blk_put (cs := #[.int .i64 0, .int .i64 0, .int .i64 0, .int .i64 0, .int .i64 0]) ?_ 4 _ rfl; refine blk_put (cs := #[.int .i64 0, .int .i64 0, .int .i64 0, .int .i64 0, .int .i64 0]) ?_ 3 _ rfl; refine blk_put (cs := #[.int .i64 0, .int .i64 0, .int .i64 0, .int .i64 0, .int .i64 0]) ?_ 2 _ rfl; refine blk_put (cs := #[.int .i64 0, .int .i64 0, .int .i64 0, .int .i64 0, .int .i64 0]) ?_ 1 _ rfl; refine blk_put (cs := #[.int .i64 0, .int .i64 0, .int .i64 0, .int .i64 0, .int .i64 0]) ?_ 0 _ rfl; (try apply_rules (transparency := .reducible) only [blk_drewN, blk_drew, blk_alloc]); exact BK119.out) Try.underlying55 rfl (by kernel_rfl)) rfl ?_
       exact ⟨by first | rfl | (simp [errW_none, errW_some] <;> rfl) | (simp only [← hji9]; first | rfl | (simp [errW_none, errW_some] <;> rfl)) | (simp [*, errW_none, errW_some] <;> rfl), by apply_rules (transparency := .reducible) only [HB.out, below_alloc, pw_below_drewN, below_drew1, below_set, GE119.out, GE120.out, GE122.out]⟩
     ·
      rw [if_neg c60] at H
      have c60b0 : (form_p (ji9)) = false := by simpa using c60
      clear c60
      by_cases c86 : (form_w (ji9)) > 0
      ·
       rw [if_pos c86] at H
       have c86b0 : decide (0 < (form_w (ji9))) = true := decide_eq_true c86
       clear c86
       replace H := Option.bind_eq_some_iff.mp H
       obtain ⟨t127, A870, H⟩ := H
       try dsimp only at H
       have A87 := Aside0.mk A870
       clear A870
       replace H := Option.bind_eq_some_iff.mp H
       obtain ⟨⟨t128, t129⟩, A880, H⟩ := H
       try dsimp only at H
       have A88 := Aside0.mk A880
       clear A880
       by_cases c89 : t129 = 0
       ·
        rw [if_pos c89] at H
        have c89b0 : (t129 == 0) = true := beq_iff_eq.mpr c89
        have c89b1 : (t129 != 0) = false := bne_eq_false_iff_eq.mpr c89
        clear c89
        by_cases c90 : t128 = a0
        ·
         rw [if_pos c90] at H
         have c90b0 : (t128 == a0) = true := beq_iff_eq.mpr c90
         have c90b1 : (t128 != a0) = false := bne_eq_false_iff_eq.mpr c90
         clear c90
         simp only [Option.some.injEq, Prod.mk.injEq] at H
         obtain ⟨rfl, rfl, rfl, rfl, rfl, rfl⟩ := H
         have hnb91 := NB122_119.out
         have hnc91 := NB119_122.out
         have hnb92 := NB122_120.out
         have hnc92 := NB120_122.out
         obtain ⟨hcz93_0, hcz93_1, hcz93_2, hcz93_3, hcz93_4⟩ := blkcG_5 BK122.out
         obtain ⟨hfz93_0, hfz93_1, hfz93_2, hfz93_3, hfz93_4⟩ := blkfG_5 BK122.out
         go_wp2_with (first | ((with_reducible refine gate_callee (f := 56) rfl ?_); refine goesL_ (some 54) rfl rfl Try.func56 (by kernel_rfl) rfl #[.int .u32 a0, .int .i64 (form_w (ji9))] rfl (by (try simp only [List.map_toArray, List.map_cons, List.map_nil]); first | done | (simp only [hji9]; rfl) | rfl | (simp only [List.length_drop, List.length_take]; rfl)) ?_; (with_reducible refine (bits_Sign.calls a0 (form_w (ji9)) t127 _ A87.out).mono ?_); rintro e w' ⟨rfl, ⟨nd, rfl⟩⟩; refine ⟨_, rfl, ?_⟩; (try (rw [drewN_self wc]; generalize hq_ : World.drewN wc _ = wc; have n0_ : Aside0 (wc.heap[gb119]? = some (.cells #[.int .i64 0, .int .i64 0, .int .i64 0, .int .i64 0, .int .i64 0] 55 (0, 0))) := ⟨by rw [← hq_]; exact (by apply_rules (transparency := .reducible) only [blk_drewN, blk_drew, blk_alloc, BK119.out])⟩; have n1_ : Aside0 (wc.heap[gb120]? = some (.cells #[.int .i64 ji9, .int .i64 x121001_11, .int .i64 x121002_11, .int .i64 0, .int .i64 0] 55 (0, 0))) := ⟨by rw [← hq_]; exact (by apply_rules (transparency := .reducible) only [blk_drewN, blk_drew, blk_alloc, BK120.out])⟩; have n2_ : Aside0 (wc.heap[gb122]? = some (.cells #[.bool (form_a (ji9)), .bool (form_b (ji9)), .bool (form_c (ji9)), .int .i64 (form_w (ji9)), .bool (form_p (ji9))] 83 (0, 0))) := ⟨by rw [← hq_]; exact (by apply_rules (transparency := .reducible) only [blk_drewN, blk_drew, blk_alloc, BK122.out])⟩; have n3_ : Aside0 (Below w.heap.size w wc) := ⟨by rw [← hq_]; exact (by apply_rules (transparency := .reducible) only [HB.out, below_alloc, pw_below_drewN, below_drew1, below_set, GE119.out, GE120.out, GE122.out])⟩; clear BK119 BK120 BK122 HB hq_; have BK119 := n0_; have BK120 := n1_; have BK122 := n2_; have HB := n3_; clear n0_ n1_ n2_ n3_)); have hnb94 := NB120_119.out; have hnc94 := NB119_120.out; obtain ⟨hcz95_0, hcz95_1, hcz95_2, hcz95_3, hcz95_4⟩ := blkcG_5 BK120.out; obtain ⟨hfz95_0, hfz95_1, hfz95_2, hfz95_3, hfz95_4⟩ := blkfG_5 BK120.out) | ((with_reducible refine gate_callee (f := 57) rfl ?_); refine goesL_ (some 58) rfl rfl Try.func57 (by kernel_rfl) rfl #[.agg #[.int .i64 ji9, .int .i64 x121001_11, .int .i64 x121002_11, .int .i64 0, .int .i64 t127]] rfl (by (try simp only [List.map_toArray, List.map_cons, List.map_nil]); first | done | (simp only [hji9]; rfl) | rfl | (simp only [List.length_drop, List.length_take]; rfl)) ?_; (with_reducible refine (code_Put.calls kj11 ji9 x121001_11 x121002_11 0 t127 t128 t129 _ A88.out).mono ?_); rintro e w96 ⟨rfl, hb⟩; refine ⟨_, rfl, ?_⟩; have n0_ := Aside0.mk (blk_below (g := gb119) (o := .cells #[.int .i64 0, .int .i64 0, .int .i64 0, .int .i64 0, .int .i64 0] 55 (0, 0)) (by apply_rules (transparency := .reducible) only [blk_drewN, blk_drew, blk_alloc, blk_far, NB119_120.out, BK119.out]) hb); have n1_ := Aside0.mk (blk_below (g := gb120) (o := .cells #[.int .i64 ji9, .int .i64 x121001_11, .int .i64 x121002_11, .int .i64 0, .int .i64 t127] 55 (0, 0)) (by (try apply_rules (transparency := .reducible) only [blk_drewN, blk_drew, blk_alloc]); refine blk_put (cs := #[.int .i64 ji9, .int .i64 x121001_11, .int .i64 x121002_11, .int .i64 0, .int .i64 0]) ?_ 4 _ rfl; (try apply_rules (transparency := .reducible) only [blk_drewN, blk_drew, blk_alloc]); exact BK120.out) hb); have n2_ := Aside0.mk (blk_below (g := gb122) (o := .cells #[.bool (form_a (ji9)), .bool (form_b (ji9)), .bool (form_c (ji9)), .int .i64 (form_w (ji9)), .bool (form_p (ji9))] 83 (0, 0)) (by apply_rules (transparency := .reducible) only [blk_drewN, blk_drew, blk_alloc, blk_far, NB122_120.out, BK122.out]) hb); have n3_ := Aside0.mk (below_step (by apply_rules (transparency := .reducible) only [HB.out, below_alloc, pw_below_drewN, below_drew1, below_set, GE119.out, GE120.out, GE122.out]) hb); clear BK119; clear BK120; clear BK122; clear HB; have BK119 := n0_; have BK120 := n1_; have BK122 := n2_; have HB := n3_; clear n0_ n1_ n2_ n3_; (try clear hb); (try clear hb2); (try clear hk); (try clear hi); obtain ⟨hcz97_0, hcz97_1, hcz97_2, hcz97_3, hcz97_4⟩ := blkcG_5 BK120.out; obtain ⟨hfz97_0, hfz97_1, hfz97_2, hfz97_3, hfz97_4⟩ := blkfG_5 BK120.out; obtain ⟨hcz98_0, hcz98_1, hcz98_2, hcz98_3, hcz98_4⟩ := blkcG_5 BK119.out; obtain ⟨hfz98_0, hfz98_1, hfz98_2, hfz98_3, hfz98_4⟩ := blkfG_5 BK119.out))
         refine bodyPost_ret (results_ct rfl _ _ gb119 55 #[.int .i64 ji9, .int .i64 x121001_11, .int .i64 x121002_11, .int .i64 0, .int .i64 t127] (0, 0) _ rfl (by (try apply_rules (transparency := .reducible) only [blk_drewN, blk_drew, blk_alloc]); refine blk_put (cs := #[.int .i64 ji9, .int .i64 x121001_11, .int .i64 x121002_11, .int .i64 0, .int .i64 0]) ?_ 4 _ rfl; refine blk_put (cs := #[.int .i64 ji9, .int .i64 x121001_11, .int .i64 x121002_11, .int .i64 0, .int .i64 0]) ?_ 3 _ rfl; refine blk_put (cs := #[.int .i64 ji9, .int .i64 x121001_11, .int .i64 0, .int .i64 0, .int .i64 0]) ?_ 2 _ rfl; refine blk_put (cs := #[.int .i64 ji9, .int .i64 0, .int .i64 0, .int .i64 0, .int .i64 0]) ?_ 1 _ rfl; refine blk_put (cs := #[.int .i64 0, .int .i64 0, .int .i64 0, .int .i64 0, .int .i64 0]) ?_ 0 _ rfl; (try apply_rules (transparency := .reducible) only [blk_drewN, blk_drew, blk_alloc]); exact BK119.out) Try.underlying55 rfl (by kernel_rfl)) rfl ?_
         exact ⟨by first | rfl | (simp [errW_none, errW_some] <;> rfl) | (simp only [← hji9]; first | rfl | (simp [errW_none, errW_some] <;> rfl)) | (simp [*, errW_none, errW_some] <;> rfl), by apply_rules (transparency := .reducible) only [HB.out, below_alloc, pw_below_drewN, below_drew1, below_set, GE119.out, GE120.out, GE122.out]⟩
        ·
         rw [if_neg c90] at H
         have c90b0 : (t128 == a0) = false := beq_eq_false_iff_ne.mpr c90
         have c90b1 : (t128 != a0) = true := bne_iff_ne.mpr c90
         simp only [Option.some.injEq, Prod.mk.injEq] at H
         obtain ⟨rfl, rfl, rfl, rfl, rfl, rfl⟩ := H
         have hnb99 := NB122_119.out
         have hnc99 := NB119_122.out
         have hnb100 := NB122_120.out
         have hnc100 := NB120_122.out
         obtain ⟨hcz101_0, hcz101_1, hcz101_2, hcz101_3, hcz101_4⟩ := blkcG_5 BK122.out
         obtain ⟨hfz101_0, hfz101_1, hfz101_2, hfz101_3, hfz101_4⟩ := blkfG_5 BK122.out
         go_wp2_with (first | ((with_reducible refine gate_callee (f := 56) rfl ?_); refine goesL_ (some 54) rfl rfl Try.func56 (by kernel_rfl) rfl #[.int .u32 a0, .int .i64 (form_w (ji9))] rfl (by (try simp only [List.map_toArray, List.map_cons, List.map_nil]); first | done | (simp only [hji9]; rfl) | rfl | (simp only [List.length_drop, List.length_take]; rfl)) ?_; (with_reducible refine (bits_Sign.calls a0 (form_w (ji9)) t127 _ A87.out).mono ?_); rintro e w' ⟨rfl, ⟨nd, rfl⟩⟩; refine ⟨_, rfl, ?_⟩; (try (rw [drewN_self wc]; generalize hq_ : World.drewN wc _ = wc; have n0_ : Aside0 (wc.heap[gb119]? = some (.cells #[.int .i64 0, .int .i64 0, .int .i64 0, .int .i64 0, .int .i64 0] 55 (0, 0))) := ⟨by rw [← hq_]; exact (by apply_rules (transparency := .reducible) only [blk_drewN, blk_drew, blk_alloc, BK119.out])⟩; have n1_ : Aside0 (wc.heap[gb120]? = some (.cells #[.int .i64 ji9, .int .i64 x121001_11, .int .i64 x121002_11, .int .i64 0, .int .i64 0] 55 (0, 0))) := ⟨by rw [← hq_]; exact (by apply_rules (transparency := .reducible) only [blk_drewN, blk_drew, blk_alloc, BK120.out])⟩; have n2_ : Aside0 (wc.heap[gb122]? = some (.cells #[.bool (form_a (ji9)), .bool (form_b (ji9)), .bool (form_c (ji9)), .int .i64 (form_w (ji9)), .bool (form_p (ji9))] 83 (0, 0))) := ⟨by rw [← hq_]; exact (by apply_rules (transparency := .reducible) only [blk_drewN, blk_drew, blk_alloc, BK122.out])⟩; have n3_ : Aside0 (Below w.heap.size w wc) := ⟨by rw [← hq_]; exact (by apply_rules (transparency := .reducible) only [HB.out, below_alloc, pw_below_drewN, below_drew1, below_set, GE119.out, GE120.out, GE122.out])⟩; clear BK119 BK120 BK122 HB hq_; have BK119 := n0_; have BK120 := n1_; have BK122 := n2_; have HB := n3_; clear n0_ n1_ n2_ n3_)); have hnb102 := NB120_119.out; have hnc102 := NB119_120.out; obtain ⟨hcz103_0, hcz103_1, hcz103_2, hcz103_3, hcz103_4⟩ := blkcG_5 BK120.out; obtain ⟨hfz103_0, hfz103_1, hfz103_2, hfz103_3, hfz103_4⟩ := blkfG_5 BK120.out) | ((with_reducible refine gate_callee (f := 57) rfl ?_); refine goesL_ (some 58) rfl rfl Try.func57 (by kernel_rfl) rfl #[.agg #[.int .i64 ji9, .int .i64 x121001_11, .int .i64 x121002_11, .int .i64 0, .int .i64 t127]] rfl (by (try simp only [List.map_toArray, List.map_cons, List.map_nil]); first | done | (simp only [hji9]; rfl) | rfl | (simp only [List.length_drop, List.length_take]; rfl)) ?_; (with_reducible refine (code_Put.calls kj11 ji9 x121001_11 x121002_11 0 t127 t128 t129 _ A88.out).mono ?_); rintro e w104 ⟨rfl, hb⟩; refine ⟨_, rfl, ?_⟩; have n0_ := Aside0.mk (blk_below (g := gb119) (o := .cells #[.int .i64 0, .int .i64 0, .int .i64 0, .int .i64 0, .int .i64 0] 55 (0, 0)) (by apply_rules (transparency := .reducible) only [blk_drewN, blk_drew, blk_alloc, blk_far, NB119_120.out, BK119.out]) hb); have n1_ := Aside0.mk (blk_below (g := gb120) (o := .cells #[.int .i64 ji9, .int .i64 x121001_11, .int .i64 x121002_11, .int .i64 0, .int .i64 t127] 55 (0, 0)) (by (try apply_rules (transparency := .reducible) only [blk_drewN, blk_drew, blk_alloc]); refine blk_put (cs := #[.int .i64 ji9, .int .i64 x121001_11, .int .i64 x121002_11, .int .i64 0, .int .i64 0]) ?_ 4 _ rfl; (try apply_rules (transparency := .reducible) only [blk_drewN, blk_drew, blk_alloc]); exact BK120.out) hb); have n2_ := Aside0.mk (blk_below (g := gb122) (o := .cells #[.bool (form_a (ji9)), .bool (form_b (ji9)), .bool (form_c (ji9)), .int .i64 (form_w (ji9)), .bool (form_p (ji9))] 83 (0, 0)) (by apply_rules (transparency := .reducible) only [blk_drewN, blk_drew, blk_alloc, blk_far, NB122_120.out, BK122.out]) hb); have n3_ := Aside0.mk (below_step (by apply_rules (transparency := .reducible) only [HB.out, below_alloc, pw_below_drewN, below_drew1, below_set, GE119.out, GE120.out, GE122.out]) hb); clear BK119; clear BK120; clear BK122; clear HB; have BK119 := n0_; have BK120 := n1_; have BK122 := n2_; have HB := n3_; clear n0_ n1_ n2_ n3_; (try clear hb); (try clear hb2); (try clear hk); (try clear hi); obtain ⟨hcz105_0, hcz105_1, hcz105_2, hcz105_3, hcz105_4⟩ := blkcG_5 BK119.out; obtain ⟨hfz105_0, hfz105_1, hfz105_2, hfz105_3, hfz105_4⟩ := blkfG_5 BK119.out))
         refine bodyPost_ret (results_ct rfl _ _ gb119 55 #[.int .i64 0, .int .i64 0, .int .i64 0, .int .i64 0, .int .i64 0] (0, 0) _ rfl (by (try apply_rules (transparency := .reducible) only [blk_drewN, blk_drew, blk_alloc]); refine blk_put (cs := #[.int .i64 0, .int .i64 0, .int .i64 0, .int .i64 0, .int .i64 0]) ?_ 4 _ rfl; refine blk_put (cs := #[.int .i64 0, .int .i64 0, .int .i64 0, .int .i64 0, .int .i64 0]) ?_ 3 _ rfl; refine blk_put (cs := #[.int .i64 0, .int .i64 0, .int .i64 0, .int .i64 0, .int .i64 0]) ?_ 2 _ rfl; refine blk_put (cs := #[.int .i64 0, .int .i64 0, .int .i64 0, .int .i64 0, .int .i64 0]) ?_ 1 _ rfl; refine blk_put (cs := #[.int .i64 0, .int .i64 0, .int .i64 0, .int .i64 0, .int .i64 0]) ?_ 0 _ rfl; (try apply_rules (transparency := .reducible) only [blk_drewN, blk_drew, blk_alloc]); exact BK119.out) Try.underlying55 rfl (by kernel_rfl)) rfl ?_
         exact ⟨by first | rfl | (simp [errW_none, errW_some] <;> rfl) | (simp only [← hji9]; first | rfl | (simp [errW_none, errW_some] <;> rfl)) | (simp [*, errW_none, errW_some] <;> rfl), by apply_rules (transparency := .reducible) only [HB.out, below_alloc, pw_below_drewN, below_drew1, below_set, GE119.out, GE120.out, GE122.out]⟩
       ·
        rw [if_neg c89] at H
        have c89b0 : (t129 == 0) = false := beq_eq_false_iff_ne.mpr c89
        have c89b1 : (t129 != 0) = true := bne_iff_ne.mpr c89
        simp only [Option.some.injEq, Prod.mk.injEq] at H
        obtain ⟨rfl, rfl, rfl, rfl, rfl, rfl⟩ := H
        have hnb106 := NB122_119.out
        have hnc106 := NB119_122.out
        have hnb107 := NB122_120.out
        have hnc107 := NB120_122.out
        obtain ⟨hcz108_0, hcz108_1, hcz108_2, hcz108_3, hcz108_4⟩ := blkcG_5 BK122.out
        obtain ⟨hfz108_0, hfz108_1, hfz108_2, hfz108_3, hfz108_4⟩ := blkfG_5 BK122.out
        go_wp2_with (first | ((with_reducible refine gate_callee (f := 56) rfl ?_); refine goesL_ (some 54) rfl rfl Try.func56 (by kernel_rfl) rfl #[.int .u32 a0, .int .i64 (form_w (ji9))] rfl (by (try simp only [List.map_toArray, List.map_cons, List.map_nil]); first | done | (simp only [hji9]; rfl) | rfl | (simp only [List.length_drop, List.length_take]; rfl)) ?_; (with_reducible refine (bits_Sign.calls a0 (form_w (ji9)) t127 _ A87.out).mono ?_); rintro e w' ⟨rfl, ⟨nd, rfl⟩⟩; refine ⟨_, rfl, ?_⟩; (try (rw [drewN_self wc]; generalize hq_ : World.drewN wc _ = wc; have n0_ : Aside0 (wc.heap[gb119]? = some (.cells #[.int .i64 0, .int .i64 0, .int .i64 0, .int .i64 0, .int .i64 0] 55 (0, 0))) := ⟨by rw [← hq_]; exact (by apply_rules (transparency := .reducible) only [blk_drewN, blk_drew, blk_alloc, BK119.out])⟩; have n1_ : Aside0 (wc.heap[gb120]? = some (.cells #[.int .i64 ji9, .int .i64 x121001_11, .int .i64 x121002_11, .int .i64 0, .int .i64 0] 55 (0, 0))) := ⟨by rw [← hq_]; exact (by apply_rules (transparency := .reducible) only [blk_drewN, blk_drew, blk_alloc, BK120.out])⟩; have n2_ : Aside0 (wc.heap[gb122]? = some (.cells #[.bool (form_a (ji9)), .bool (form_b (ji9)), .bool (form_c (ji9)), .int .i64 (form_w (ji9)), .bool (form_p (ji9))] 83 (0, 0))) := ⟨by rw [← hq_]; exact (by apply_rules (transparency := .reducible) only [blk_drewN, blk_drew, blk_alloc, BK122.out])⟩; have n3_ : Aside0 (Below w.heap.size w wc) := ⟨by rw [← hq_]; exact (by apply_rules (transparency := .reducible) only [HB.out, below_alloc, pw_below_drewN, below_drew1, below_set, GE119.out, GE120.out, GE122.out])⟩; clear BK119 BK120 BK122 HB hq_; have BK119 := n0_; have BK120 := n1_; have BK122 := n2_; have HB := n3_; clear n0_ n1_ n2_ n3_)); have hnb109 := NB120_119.out; have hnc109 := NB119_120.out; obtain ⟨hcz110_0, hcz110_1, hcz110_2, hcz110_3, hcz110_4⟩ := blkcG_5 BK120.out; obtain ⟨hfz110_0, hfz110_1, hfz110_2, hfz110_3, hfz110_4⟩ := blkfG_5 BK120.out) | ((with_reducible refine gate_callee (f := 57) rfl ?_); refine goesL_ (some 58) rfl rfl Try.func57 (by kernel_rfl) rfl #[.agg #[.int .i64 ji9, .int .i64 x121001_11, .int .i64 x121002_11, .int .i64 0, .int .i64 t127]] rfl (by (try simp only [List.map_toArray, List.map_cons, List.map_nil]); first | done | (simp only [hji9]; rfl) | rfl | (simp only [List.length_drop, List.length_take]; rfl)) ?_; (with_reducible refine (code_Put.calls kj11 ji9 x121001_11 x121002_11 0 t127 t128 t129 _ A88.out).mono ?_); rintro e w111 ⟨rfl, hb⟩; refine ⟨_, rfl, ?_⟩; have n0_ := Aside0.mk (blk_below (g := gb119) (o := .cells #[.int .i64 0, .int .i64 0, .int .i64 0, .int .i64 0, .int .i64 0] 55 (0, 0)) (by apply_rules (transparency := .reducible) only [blk_drewN, blk_drew, blk_alloc, blk_far, NB119_120.out, BK119.out]) hb); have n1_ := Aside0.mk (blk_below (g := gb120) (o := .cells #[.int .i64 ji9, .int .i64 x121001_11, .int .i64 x121002_11, .int .i64 0, .int .i64 t127] 55 (0, 0)) (by (try apply_rules (transparency := .reducible) only [blk_drewN, blk_drew, blk_alloc]); refine blk_put (cs := #[.int .i64 ji9, .int .i64 x121001_11, .int .i64 x121002_11, .int .i64 0, .int .i64 0]) ?_ 4 _ rfl; (try apply_rules (transparency := .reducible) only [blk_drewN, blk_drew, blk_alloc]); exact BK120.out) hb); have n2_ := Aside0.mk (blk_below (g := gb122) (o := .cells #[.bool (form_a (ji9)), .bool (form_b (ji9)), .bool (form_c (ji9)), .int .i64 (form_w (ji9)), .bool (form_p (ji9))] 83 (0, 0)) (by apply_rules (transparency := .reducible) only [blk_drewN, blk_drew, blk_alloc, blk_far, NB122_120.out, BK122.out]) hb); have n3_ := Aside0.mk (below_step (by apply_rules (transparency := .reducible) only [HB.out, below_alloc, pw_below_drewN, below_drew1, below_set, GE119.out, GE120.out, GE122.out]) hb); clear BK119; clear BK120; clear BK122; clear HB; have BK119 := n0_; have BK120 := n1_; have BK122 := n2_; have HB := n3_; clear n0_ n1_ n2_ n3_; (try clear hb); (try clear hb2); (try clear hk); (try clear hi); obtain ⟨hcz112_0, hcz112_1, hcz112_2, hcz112_3, hcz112_4⟩ := blkcG_5 BK119.out; obtain ⟨hfz112_0, hfz112_1, hfz112_2, hfz112_3, hfz112_4⟩ := blkfG_5 BK119.out))
        refine bodyPost_ret (results_ct rfl _ _ gb119 55 #[.int .i64 0, .int .i64 0, .int .i64 0, .int .i64 0, .int .i64 0] (0, 0) _ rfl (by (try apply_rules (transparency := .reducible) only [blk_drewN, blk_drew, blk_alloc]); refine blk_put (cs := #[.int .i64 0, .int .i64 0, .int .i64 0, .int .i64 0, .int .i64 0]) ?_ 4 _ rfl; refine blk_put (cs := #[.int .i64 0, .int .i64 0, .int .i64 0, .int .i64 0, .int .i64 0]) ?_ 3 _ rfl; refine blk_put (cs := #[.int .i64 0, .int .i64 0, .int .i64 0, .int .i64 0, .int .i64 0]) ?_ 2 _ rfl; refine blk_put (cs := #[.int .i64 0, .int .i64 0, .int .i64 0, .int .i64 0, .int .i64 0]) ?_ 1 _ rfl; refine blk_put (cs := #[.int .i64 0, .int .i64 0, .int .i64 0, .int .i64 0, .int .i64 0]) ?_ 0 _ rfl; (try apply_rules (transparency := .reducible) only [blk_drewN, blk_drew, blk_alloc]); exact BK119.out) Try.underlying55 rfl (by kernel_rfl)) rfl ?_
        exact ⟨by first | rfl | (simp [errW_none, errW_some] <;> rfl) | (simp only [← hji9]; first | rfl | (simp [errW_none, errW_some] <;> rfl)) | (simp [*, errW_none, errW_some] <;> rfl), by apply_rules (transparency := .reducible) only [HB.out, below_alloc, pw_below_drewN, below_drew1, below_set, GE119.out, GE120.out, GE122.out]⟩
      ·
       rw [if_neg c86] at H
       have c86b0 : decide (0 < (form_w (ji9))) = false := decide_eq_false c86
       clear c86
       replace H := Option.bind_eq_some_iff.mp H
       obtain ⟨⟨t130, t131⟩, A1130, H⟩ := H
       try dsimp only at H
       have A113 := Aside0.mk A1130
       clear A1130
       by_cases c114 : t131 = 0
       ·
        rw [if_pos c114] at H
        have c114b0 : (t131 == 0) = true := beq_iff_eq.mpr c114
        have c114b1 : (t131 != 0) = false := bne_eq_false_iff_eq.mpr c114
        clear c114
        by_cases c115 : t130 = a0
        ·
         rw [if_pos c115] at H
         have c115b0 : (t130 == a0) = true := beq_iff_eq.mpr c115
         have c115b1 : (t130 != a0) = false := bne_eq_false_iff_eq.mpr c115
         clear c115
         simp only [Option.some.injEq, Prod.mk.injEq] at H
         obtain ⟨rfl, rfl, rfl, rfl, rfl, rfl⟩ := H
         have hnb116 := NB122_119.out
         have hnc116 := NB119_122.out
         have hnb117 := NB122_120.out
         have hnc117 := NB120_122.out
         obtain ⟨hcz118_0, hcz118_1, hcz118_2, hcz118_3, hcz118_4⟩ := blkcG_5 BK122.out
         obtain ⟨hfz118_0, hfz118_1, hfz118_2, hfz118_3, hfz118_4⟩ := blkfG_5 BK122.out
         have hnb119 := NB120_119.out
         have hnc119 := NB119_120.out
         obtain ⟨hcz120_0, hcz120_1, hcz120_2, hcz120_3, hcz120_4⟩ := blkcG_5 BK120.out
         obtain ⟨hfz120_0, hfz120_1, hfz120_2, hfz120_3, hfz120_4⟩ := blkfG_5 BK120.out
         go_wp2_with (first | ((with_reducible refine gate_callee (f := 57) rfl ?_); refine goesL_ (some 58) rfl rfl Try.func57 (by kernel_rfl) rfl #[.agg #[.int .i64 ji9, .int .i64 x121001_11, .int .i64 x121002_11, .int .i64 0, .int .i64 0]] rfl (by (try simp only [List.map_toArray, List.map_cons, List.map_nil]); first | done | (simp only [hji9]; rfl) | rfl | (simp only [List.length_drop, List.length_take]; rfl)) ?_; (with_reducible refine (code_Put.calls kj11 ji9 x121001_11 x121002_11 0 0 t130 t131 _ A113.out).mono ?_); rintro e w121 ⟨rfl, hb⟩; refine ⟨_, rfl, ?_⟩; have n0_ := Aside0.mk (blk_below (g := gb119) (o := .cells #[.int .i64 0, .int .i64 0, .int .i64 0, .int .i64 0, .int .i64 0] 55 (0, 0)) (by apply_rules (transparency := .reducible) only [blk_drewN, blk_drew, blk_alloc, BK119.out]) hb); have n1_ := Aside0.mk (blk_below (g := gb120) (o := .cells #[.int .i64 ji9, .int .i64 x121001_11, .int .i64 x121002_11, .int .i64 0, .int .i64 0] 55 (0, 0)) (by apply_rules (transparency := .reducible) only [blk_drewN, blk_drew, blk_alloc, BK120.out]) hb); have n2_ := Aside0.mk (blk_below (g := gb122) (o := .cells #[.bool (form_a (ji9)), .bool (form_b (ji9)), .bool (form_c (ji9)), .int .i64 (form_w (ji9)), .bool (form_p (ji9))] 83 (0, 0)) (by apply_rules (transparency := .reducible) only [blk_drewN, blk_drew, blk_alloc, BK122.out]) hb); have n3_ := Aside0.mk (below_step (by apply_rules (transparency := .reducible) only [HB.out, below_alloc, pw_below_drewN, below_drew1, below_set, GE119.out, GE120.out, GE122.out]) hb); clear BK119; clear BK120; clear BK122; clear HB; have BK119 := n0_; have BK120 := n1_; have BK122 := n2_; have HB := n3_; clear n0_ n1_ n2_ n3_; (try clear hb); (try clear hb2); (try clear hk); (try clear hi); obtain ⟨hcz122_0, hcz122_1, hcz122_2, hcz122_3, hcz122_4⟩ := blkcG_5 BK120.out; obtain ⟨hfz122_0, hfz122_1, hfz122_2, hfz122_3, hfz122_4⟩ := blkfG_5 BK120.out; obtain ⟨hcz123_0, hcz123_1, hcz123_2, hcz123_3, hcz123_4⟩ := blkcG_5 BK119.out; obtain ⟨hfz123_0, hfz123_1, hfz123_2, hfz123_3, hfz123_4⟩ := blkfG_5 BK119.out))
         refine bodyPost_ret (results_ct rfl _ _ gb119 55 #[.int .i64 ji9, .int .i64 x121001_11, .int .i64 x121002_11, .int .i64 0, .int .i64 0] (0, 0) _ rfl (by (try apply_rules (transparency := .reducible) only [blk_drewN, blk_drew, blk_alloc]); refine blk_put (cs := #[.int .i64 ji9, .int .i64 x121001_11, .int .i64 x121002_11, .int .i64 0, .int .i64 0]) ?_ 4 _ rfl; refine blk_put (cs := #[.int .i64 ji9, .int .i64 x121001_11, .int .i64 x121002_11, .int .i64 0, .int .i64 0]) ?_ 3 _ rfl; refine blk_put (cs := #[.int .i64 ji9, .int .i64 x121001_11, .int .i64 0, .int .i64 0, .int .i64 0]) ?_ 2 _ rfl; refine blk_put (cs := #[.int .i64 ji9, .int .i64 0, .int .i64 0, .int .i64 0, .int .i64 0]) ?_ 1 _ rfl; refine blk_put (cs := #[.int .i64 0, .int .i64 0, .int .i64 0, .int .i64 0, .int .i64 0]) ?_ 0 _ rfl; (try apply_rules (transparency := .reducible) only [blk_drewN, blk_drew, blk_alloc]); exact BK119.out) Try.underlying55 rfl (by kernel_rfl)) rfl ?_
         exact ⟨by first | rfl | (simp [errW_none, errW_some] <;> rfl) | (simp only [← hji9]; first | rfl | (simp [errW_none, errW_some] <;> rfl)) | (simp [*, errW_none, errW_some] <;> rfl), by apply_rules (transparency := .reducible) only [HB.out, below_alloc, pw_below_drewN, below_drew1, below_set, GE119.out, GE120.out, GE122.out]⟩
        ·
         rw [if_neg c115] at H
         have c115b0 : (t130 == a0) = false := beq_eq_false_iff_ne.mpr c115
         have c115b1 : (t130 != a0) = true := bne_iff_ne.mpr c115
         simp only [Option.some.injEq, Prod.mk.injEq] at H
         obtain ⟨rfl, rfl, rfl, rfl, rfl, rfl⟩ := H
         have hnb124 := NB122_119.out
         have hnc124 := NB119_122.out
         have hnb125 := NB122_120.out
         have hnc125 := NB120_122.out
         obtain ⟨hcz126_0, hcz126_1, hcz126_2, hcz126_3, hcz126_4⟩ := blkcG_5 BK122.out
         obtain ⟨hfz126_0, hfz126_1, hfz126_2, hfz126_3, hfz126_4⟩ := blkfG_5 BK122.out
         have hnb127 := NB120_119.out
         have hnc127 := NB119_120.out
         obtain ⟨hcz128_0, hcz128_1, hcz128_2, hcz128_3, hcz128_4⟩ := blkcG_5 BK120.out
         obtain ⟨hfz128_0, hfz128_1, hfz128_2, hfz128_3, hfz128_4⟩ := blkfG_5 BK120.out
         go_wp2_with (first | ((with_reducible refine gate_callee (f := 57) rfl ?_); refine goesL_ (some 58) rfl rfl Try.func57 (by kernel_rfl) rfl #[.agg #[.int .i64 ji9, .int .i64 x121001_11, .int .i64 x121002_11, .int .i64 0, .int .i64 0]] rfl (by (try simp only [List.map_toArray, List.map_cons, List.map_nil]); first | done | (simp only [hji9]; rfl) | rfl | (simp only [List.length_drop, List.length_take]; rfl)) ?_; (with_reducible refine (code_Put.calls kj11 ji9 x121001_11 x121002_11 0 0 t130 t131 _ A113.out).mono ?_); rintro e w129 ⟨rfl, hb⟩; refine ⟨_, rfl, ?_⟩; have n0_ := Aside0.mk (blk_below (g := gb119) (o := .cells #[.int .i64 0, .int .i64 0, .int .i64 0, .int .i64 0, .int .i64 0] 55 (0, 0)) (by apply_rules (transparency := .reducible) only [blk_drewN, blk_drew, blk_alloc, BK119.out]) hb); have n1_ := Aside0.mk (blk_below (g := gb120) (o := .cells #[.int .i64 ji9, .int .i64 x121001_11, .int .i64 x121002_11, .int .i64 0, .int .i64 0] 55 (0, 0)) (by apply_rules (transparency := .reducible) only [blk_drewN, blk_drew, blk_alloc, BK120.out]) hb); have n2_ := Aside0.mk (blk_below (g := gb122) (o := .cells #[.bool (form_a (ji9)), .bool (form_b (ji9)), .bool (form_c (ji9)), .int .i64 (form_w (ji9)), .bool (form_p (ji9))] 83 (0, 0)) (by apply_rules (transparency := .reducible) only [blk_drewN, blk_drew, blk_alloc, BK122.out]) hb); have n3_ := Aside0.mk (below_step (by apply_rules (transparency := .reducible) only [HB.out, below_alloc, pw_below_drewN, below_drew1, below_set, GE119.out, GE120.out, GE122.out]) hb); clear BK119; clear BK120; clear BK122; clear HB; have BK119 := n0_; have BK120 := n1_; have BK122 := n2_; have HB := n3_; clear n0_ n1_ n2_ n3_; (try clear hb); (try clear hb2); (try clear hk); (try clear hi); obtain ⟨hcz130_0, hcz130_1, hcz130_2, hcz130_3, hcz130_4⟩ := blkcG_5 BK119.out; obtain ⟨hfz130_0, hfz130_1, hfz130_2, hfz130_3, hfz130_4⟩ := blkfG_5 BK119.out))
         refine bodyPost_ret (results_ct rfl _ _ gb119 55 #[.int .i64 0, .int .i64 0, .int .i64 0, .int .i64 0, .int .i64 0] (0, 0) _ rfl (by (try apply_rules (transparency := .reducible) only [blk_drewN, blk_drew, blk_alloc]); refine blk_put (cs := #[.int .i64 0, .int .i64 0, .int .i64 0, .int .i64 0, .int .i64 0]) ?_ 4 _ rfl; refine blk_put (cs := #[.int .i64 0, .int .i64 0, .int .i64 0, .int .i64 0, .int .i64 0]) ?_ 3 _ rfl; refine blk_put (cs := #[.int .i64 0, .int .i64 0, .int .i64 0, .int .i64 0, .int .i64 0]) ?_ 2 _ rfl; refine blk_put (cs := #[.int .i64 0, .int .i64 0, .int .i64 0, .int .i64 0, .int .i64 0]) ?_ 1 _ rfl; refine blk_put (cs := #[.int .i64 0, .int .i64 0, .int .i64 0, .int .i64 0, .int .i64 0]) ?_ 0 _ rfl; (try apply_rules (transparency := .reducible) only [blk_drewN, blk_drew, blk_alloc]); exact BK119.out) Try.underlying55 rfl (by kernel_rfl)) rfl ?_
         exact ⟨by first | rfl | (simp [errW_none, errW_some] <;> rfl) | (simp only [← hji9]; first | rfl | (simp [errW_none, errW_some] <;> rfl)) | (simp [*, errW_none, errW_some] <;> rfl), by apply_rules (transparency := .reducible) only [HB.out, below_alloc, pw_below_drewN, below_drew1, below_set, GE119.out, GE120.out, GE122.out]⟩
       ·
        rw [if_neg c114] at H
        have c114b0 : (t131 == 0) = false := beq_eq_false_iff_ne.mpr c114
        have c114b1 : (t131 != 0) = true := bne_iff_ne.mpr c114
        simp only [Option.some.injEq, Prod.mk.injEq] at H
        obtain ⟨rfl, rfl, rfl, rfl, rfl, rfl⟩ := H
        have hnb131 := NB122_119.out
        have hnc131 := NB119_122.out
        have hnb132 := NB122_120.out
        have hnc132 := NB120_122.out
        obtain ⟨hcz133_0, hcz133_1, hcz133_2, hcz133_3, hcz133_4⟩ := blkcG_5 BK122.out
        obtain ⟨hfz133_0, hfz133_1, hfz133_2, hfz133_3, hfz133_4⟩ := blkfG_5 BK122.out
        have hnb134 := NB120_119.out
        have hnc134 := NB119_120.out
        obtain ⟨hcz135_0, hcz135_1, hcz135_2, hcz135_3, hcz135_4⟩ := blkcG_5 BK120.out
        obtain ⟨hfz135_0, hfz135_1, hfz135_2, hfz135_3, hfz135_4⟩ := blkfG_5 BK120.out
        go_wp2_with (first | ((with_reducible refine gate_callee (f := 57) rfl ?_); refine goesL_ (some 58) rfl rfl Try.func57 (by kernel_rfl) rfl #[.agg #[.int .i64 ji9, .int .i64 x121001_11, .int .i64 x121002_11, .int .i64 0, .int .i64 0]] rfl (by (try simp only [List.map_toArray, List.map_cons, List.map_nil]); first | done | (simp only [hji9]; rfl) | rfl | (simp only [List.length_drop, List.length_take]; rfl)) ?_; (with_reducible refine (code_Put.calls kj11 ji9 x121001_11 x121002_11 0 0 t130 t131 _ A113.out).mono ?_); rintro e w136 ⟨rfl, hb⟩; refine ⟨_, rfl, ?_⟩; have n0_ := Aside0.mk (blk_below (g := gb119) (o := .cells #[.int .i64 0, .int .i64 0, .int .i64 0, .int .i64 0, .int .i64 0] 55 (0, 0)) (by apply_rules (transparency := .reducible) only [blk_drewN, blk_drew, blk_alloc, BK119.out]) hb); have n1_ := Aside0.mk (blk_below (g := gb120) (o := .cells #[.int .i64 ji9, .int .i64 x121001_11, .int .i64 x121002_11, .int .i64 0, .int .i64 0] 55 (0, 0)) (by apply_rules (transparency := .reducible) only [blk_drewN, blk_drew, blk_alloc, BK120.out]) hb); have n2_ := Aside0.mk (blk_below (g := gb122) (o := .cells #[.bool (form_a (ji9)), .bool (form_b (ji9)), .bool (form_c (ji9)), .int .i64 (form_w (ji9)), .bool (form_p (ji9))] 83 (0, 0)) (by apply_rules (transparency := .reducible) only [blk_drewN, blk_drew, blk_alloc, BK122.out]) hb); have n3_ := Aside0.mk (below_step (by apply_rules (transparency := .reducible) only [HB.out, below_alloc, pw_below_drewN, below_drew1, below_set, GE119.out, GE120.out, GE122.out]) hb); clear BK119; clear BK120; clear BK122; clear HB; have BK119 := n0_; have BK120 := n1_; have BK122 := n2_; have HB := n3_; clear n0_ n1_ n2_ n3_; (try clear hb); (try clear hb2); (try clear hk); (try clear hi); obtain ⟨hcz137_0, hcz137_1, hcz137_2, hcz137_3, hcz137_4⟩ := blkcG_5 BK119.out; obtain ⟨hfz137_0, hfz137_1, hfz137_2, hfz137_3, hfz137_4⟩ := blkfG_5 BK119.out))
        refine bodyPost_ret (results_ct rfl _ _ gb119 55 #[.int .i64 0, .int .i64 0, .int .i64 0, .int .i64 0, .int .i64 0] (0, 0) _ rfl (by (try apply_rules (transparency := .reducible) only [blk_drewN, blk_drew, blk_alloc]); refine blk_put (cs := #[.int .i64 0, .int .i64 0, .int .i64 0, .int .i64 0, .int .i64 0]) ?_ 4 _ rfl; refine blk_put (cs := #[.int .i64 0, .int .i64 0, .int .i64 0, .int .i64 0, .int .i64 0]) ?_ 3 _ rfl; refine blk_put (cs := #[.int .i64 0, .int .i64 0, .int .i64 0, .int .i64 0, .int .i64 0]) ?_ 2 _ rfl; refine blk_put (cs := #[.int .i64 0, .int .i64 0, .int .i64 0, .int .i64 0, .int .i64 0]) ?_ 1 _ rfl; refine blk_put (cs := #[.int .i64 0, .int .i64 0, .int .i64 0, .int .i64 0, .int .i64 0]) ?_ 0 _ rfl; (try apply_rules (transparency := .reducible) only [blk_drewN, blk_drew, blk_alloc]); exact BK119.out) Try.underlying55 rfl (by kernel_rfl)) rfl ?_
        exact ⟨by first | rfl | (simp [errW_none, errW_some] <;> rfl) | (simp only [← hji9]; first | rfl | (simp [errW_none, errW_some] <;> rfl)) | (simp [*, errW_none, errW_some] <;> rfl), by apply_rules (transparency := .reducible) only [HB.out, below_alloc, pw_below_drewN, below_drew1, below_set, GE119.out, GE120.out, GE122.out]⟩
end Go.Proofs.Ytcagccodmmcnfaa.Q
