/- Several texts in one. Own work; written by merge.py. -/
import Derived.Test.YtgaggfekgkedpaaQD0
import Derived.Test.YtgaggfekgkedpaaQB
import Derived.Test.YtgaggfekgkedpaaMxG
import Derived.Test.YtgaggfekgkedpaaMxF
import Derived.Test.YtgaggfekgkedpaaRows
import Derived.WalkKit
import Derived.ProofKit
import Derived.OpenShut
import Derived.ShutString
import Derived.ChangeOld
import Derived.Below
import Derived.SizedLaws
section
-- Written by drv.py, a program of this session, over the kit's print, out of the translation. Not trusted: Lean checks it.
namespace Go.Proofs.Ytgaggfekgkedpaa.Q
open Go.RowKit Go.Proofs.YtgaggfekgkedpaaW.PrintWords Go.Proofs.YtgaggfekgkedpaaW.PrintLast Go.Proofs.YtgaggfekgkedpaaW.PrintMore
attribute [local go_sem] max2_int min2_int max_two min_two max_three min_three max_four min_four   -- for this text's walks alone
set_option linter.unusedVariables false
set_option linter.unusedSimpArgs false

set_option maxHeartbeats 8000000 in
set_option maxRecDepth 100000 in
theorem spliceref02_Put.calls (k : Nat) (a0_0 : Int) (a0_1 : Int) (a0_2 : Int) (a0_3 : Int) (a0_4 : Int) (r : Int) (w : World) (h : spliceref02_Put.f k a0_0 a0_1 a0_2 a0_3 a0_4 = some r) :
    Calls Try.prog 17 #[.agg #[.int .i64 a0_0, .int .i64 a0_1, .int .i64 a0_2, .int .i64 a0_3, .int .i64 a0_4]] w fun e w' => e = .returned (.int .u32 r) ∧ Below w.heap.size w w' := by
 have hu40 := Try.underlying40
 have HB := Aside0.mk (Below.refl w.heap.size w)
 have H : ((spliceref02_branch.f a0_0).bind fun t315 => (if t315 = true then (spliceref02_Put.j0 k 8 a0_0 a0_1 a0_2 a0_3 a0_4) else (spliceref02_Put.j0 k 16 a0_0 a0_1 a0_2 a0_3 a0_4))) = some r := h
 clear h
 replace H := Option.bind_eq_some_iff.mp H
 obtain ⟨t315, A20, H⟩ := H
 replace H : (if t315 = true then (spliceref02_Put.j0 k 8 a0_0 a0_1 a0_2 a0_3 a0_4) else (spliceref02_Put.j0 k 16 a0_0 a0_1 a0_2 a0_3 a0_4)) = some r := H
 have A2 := Aside0.mk A20
 clear A20
 have HC3 := Aside0.mk H
 clear H
 go_enter Try.func17, Try.ntmps17
 go_upto_if 6 with (first | ((with_reducible refine gate_dst (N := 1) rfl ?_); refine box_event ?hg (N := 1) ?hd (cs := #[.int .i64 a0_0, .int .i64 a0_1, .int .i64 a0_2, .int .i64 a0_3, .int .i64 a0_4]) (t := 40) ?hr ?_; (case hd => rfl); (case hg => rfl); (case hr => first | (go_simp; done) | (go_simp; rfl)); intro gb314 hg w4 hbox hb; have n0_ := Aside0.mk (below_step (by repeat (first | (with_reducible first | exact HB.out | apply below_alloc | apply pw_below_drewN | apply below_drew1) | exact HB.out)) hb); have n1_ := Aside0.mk (hbox); have n2_ := Aside0.mk ((by rw [hg]; exact (below_size (by repeat (first | (with_reducible first | exact HB.out | apply below_alloc | apply pw_below_drewN | apply below_drew1) | exact HB.out))) : w.heap.size ≤ gb314)); have n3_ := Aside0.mk ((by rw [hg]; exact (below_size (by repeat (first | (with_reducible first | exact HB.out | apply below_alloc | apply pw_below_drewN | apply below_drew1) | exact HB.out))) : w.heap.size ≤ gb314)); clear HB; have HB := n0_; have BK314 := n1_; have GW314 := n2_; have GE314 := n3_; clear n0_ n1_ n2_ n3_; clear hb hbox hg; have hcz5_0 : w4.cell? ⟨gb314, 0, none⟩ = some (.int .i64 a0_0) := (blk_cell BK314.out 0).trans rfl; have hcz5_1 : w4.cell? ⟨gb314, 1, none⟩ = some (.int .i64 a0_1) := (blk_cell BK314.out 1).trans rfl; have hcz5_2 : w4.cell? ⟨gb314, 2, none⟩ = some (.int .i64 a0_2) := (blk_cell BK314.out 2).trans rfl; have hcz5_3 : w4.cell? ⟨gb314, 3, none⟩ = some (.int .i64 a0_3) := (blk_cell BK314.out 3).trans rfl; have hcz5_4 : w4.cell? ⟨gb314, 4, none⟩ = some (.int .i64 a0_4) := (blk_cell BK314.out 4).trans rfl; have hfz5_0 := blk_frozen BK314.out 0; have hfz5_1 := blk_frozen BK314.out 1; have hfz5_2 := blk_frozen BK314.out 2; have hfz5_3 := blk_frozen BK314.out 3; have hfz5_4 := blk_frozen BK314.out 4) | (go_at_call 36; (with_reducible refine (spliceref02_branch.calls a0_0 t315 _ A2.out).mono ?_); rintro e w' ⟨rfl, ⟨nd, rfl⟩⟩; (try first | exact ⟨rfl, _, World.drewN_drewN _ _ _⟩ | exact ⟨rfl, _, Eq.trans (World.drewN_drewN _ _ _) (congrArg (World.drewN _) (Nat.add_assoc _ _ _))⟩)))
 repeat (go_quiet (first | ((with_reducible refine gate_dst (N := 1) rfl ?_); refine box_event ?hg (N := 1) ?hd (cs := #[.int .i64 a0_0, .int .i64 a0_1, .int .i64 a0_2, .int .i64 a0_3, .int .i64 a0_4]) (t := 40) ?hr ?_; (case hd => rfl); (case hg => rfl); (case hr => first | (go_simp; done) | (go_simp; rfl)); intro gb314 hg w4 hbox hb; have n0_ := Aside0.mk (below_step (by repeat (first | (with_reducible first | exact HB.out | apply below_alloc | apply pw_below_drewN | apply below_drew1) | exact HB.out)) hb); have n1_ := Aside0.mk (hbox); have n2_ := Aside0.mk ((by rw [hg]; exact (below_size (by repeat (first | (with_reducible first | exact HB.out | apply below_alloc | apply pw_below_drewN | apply below_drew1) | exact HB.out))) : w.heap.size ≤ gb314)); have n3_ := Aside0.mk ((by rw [hg]; exact (below_size (by repeat (first | (with_reducible first | exact HB.out | apply below_alloc | apply pw_below_drewN | apply below_drew1) | exact HB.out))) : w.heap.size ≤ gb314)); clear HB; have HB := n0_; have BK314 := n1_; have GW314 := n2_; have GE314 := n3_; clear n0_ n1_ n2_ n3_; clear hb hbox hg; have hcz5_0 : w4.cell? ⟨gb314, 0, none⟩ = some (.int .i64 a0_0) := (blk_cell BK314.out 0).trans rfl; have hcz5_1 : w4.cell? ⟨gb314, 1, none⟩ = some (.int .i64 a0_1) := (blk_cell BK314.out 1).trans rfl; have hcz5_2 : w4.cell? ⟨gb314, 2, none⟩ = some (.int .i64 a0_2) := (blk_cell BK314.out 2).trans rfl; have hcz5_3 : w4.cell? ⟨gb314, 3, none⟩ = some (.int .i64 a0_3) := (blk_cell BK314.out 3).trans rfl; have hcz5_4 : w4.cell? ⟨gb314, 4, none⟩ = some (.int .i64 a0_4) := (blk_cell BK314.out 4).trans rfl; have hfz5_0 := blk_frozen BK314.out 0; have hfz5_1 := blk_frozen BK314.out 1; have hfz5_2 := blk_frozen BK314.out 2; have hfz5_3 := blk_frozen BK314.out 3; have hfz5_4 := blk_frozen BK314.out 4) | (go_at_call 36; (with_reducible refine (spliceref02_branch.calls a0_0 t315 _ A2.out).mono ?_); rintro e w' ⟨rfl, ⟨nd, rfl⟩⟩; (try first | exact ⟨rfl, _, World.drewN_drewN _ _ _⟩ | exact ⟨rfl, _, Eq.trans (World.drewN_drewN _ _ _) (congrArg (World.drewN _) (Nat.add_assoc _ _ _))⟩))); go_upto_if 6 with (first | ((with_reducible refine gate_dst (N := 1) rfl ?_); refine box_event ?hg (N := 1) ?hd (cs := #[.int .i64 a0_0, .int .i64 a0_1, .int .i64 a0_2, .int .i64 a0_3, .int .i64 a0_4]) (t := 40) ?hr ?_; (case hd => rfl); (case hg => rfl); (case hr => first | (go_simp; done) | (go_simp; rfl)); intro gb314 hg w4 hbox hb; have n0_ := Aside0.mk (below_step (by repeat (first | (with_reducible first | exact HB.out | apply below_alloc | apply pw_below_drewN | apply below_drew1) | exact HB.out)) hb); have n1_ := Aside0.mk (hbox); have n2_ := Aside0.mk ((by rw [hg]; exact (below_size (by repeat (first | (with_reducible first | exact HB.out | apply below_alloc | apply pw_below_drewN | apply below_drew1) | exact HB.out))) : w.heap.size ≤ gb314)); have n3_ := Aside0.mk ((by rw [hg]; exact (below_size (by repeat (first | (with_reducible first | exact HB.out | apply below_alloc | apply pw_below_drewN | apply below_drew1) | exact HB.out))) : w.heap.size ≤ gb314)); clear HB; have HB := n0_; have BK314 := n1_; have GW314 := n2_; have GE314 := n3_; clear n0_ n1_ n2_ n3_; clear hb hbox hg; have hcz5_0 : w4.cell? ⟨gb314, 0, none⟩ = some (.int .i64 a0_0) := (blk_cell BK314.out 0).trans rfl; have hcz5_1 : w4.cell? ⟨gb314, 1, none⟩ = some (.int .i64 a0_1) := (blk_cell BK314.out 1).trans rfl; have hcz5_2 : w4.cell? ⟨gb314, 2, none⟩ = some (.int .i64 a0_2) := (blk_cell BK314.out 2).trans rfl; have hcz5_3 : w4.cell? ⟨gb314, 3, none⟩ = some (.int .i64 a0_3) := (blk_cell BK314.out 3).trans rfl; have hcz5_4 : w4.cell? ⟨gb314, 4, none⟩ = some (.int .i64 a0_4) := (blk_cell BK314.out 4).trans rfl; have hfz5_0 := blk_frozen BK314.out 0; have hfz5_1 := blk_frozen BK314.out 1; have hfz5_2 := blk_frozen BK314.out 2; have hfz5_3 := blk_frozen BK314.out 3; have hfz5_4 := blk_frozen BK314.out 4) | (go_at_call 36; (with_reducible refine (spliceref02_branch.calls a0_0 t315 _ A2.out).mono ?_); rintro e w' ⟨rfl, ⟨nd, rfl⟩⟩; (try first | exact ⟨rfl, _, World.drewN_drewN _ _ _⟩ | exact ⟨rfl, _, Eq.trans (World.drewN_drewN _ _ _) (congrArg (World.drewN _) (Nat.add_assoc _ _ _))⟩))))
 (try simp only [Act.put, List.setIfInBounds_toArray, List.set_cons_zero, List.set_cons_succ])
 go_cut [3] (fun v3 wc => ∃ (kq : Nat) (x3_2 : Int), v3 = .int .i64 x3_2 ∧ Aside0 (spliceref02_Put.j0 kq x3_2 a0_0 a0_1 a0_2 a0_3 a0_4 = some r) ∧ Aside0 (kq ≤ k) ∧ Aside0 (wc.heap[gb314]? = some (.cells #[.int .i64 a0_0, .int .i64 a0_1, .int .i64 a0_2, .int .i64 a0_3, .int .i64 a0_4] 40 (0, 0))) ∧ Aside0 (Below w.heap.size w wc))
 case first =>
  have H := HC3.out
  clear HC3
  by_cases c6 : t315 = true
  ·
   subst c6
   have H1 : (spliceref02_Put.j0 k 8 a0_0 a0_1 a0_2 a0_3 a0_4) = some r := by rw [if_pos rfl] at H; exact H
   clear H
   have H := H1
   clear H1
   have H' := Aside0.mk H
   clear H
   go_wp2
   repeat (go_quiet (fail); try go_wp2)
   go_meet
   case rel => exact ⟨_, (8), (by first | rfl | (simp; done) | (simp [*]; done)), H', ⟨by first | omega | exact Nat.le_refl _⟩, ⟨by (with_reducible repeat (first | refine blk_drewN ?_ _ | refine blk_drew ?_ | refine blk_alloc ?_ _)); exact BK314.out⟩, ⟨by repeat (first | (with_reducible first | exact HB.out | apply below_alloc | apply pw_below_drewN | apply below_drew1 | refine below_set ?_ GE314.out) | exact HB.out)⟩⟩
  ·
   replace c6 := Bool.eq_false_iff.mpr c6
   subst c6
   have H1 : (spliceref02_Put.j0 k 16 a0_0 a0_1 a0_2 a0_3 a0_4) = some r := by rw [if_neg (show ¬ (false = true) by decide)] at H; exact H
   clear H
   have H := H1
   clear H1
   have H' := Aside0.mk H
   clear H
   go_wp2
   repeat (go_quiet (fail); try go_wp2)
   go_meet
   case rel => exact ⟨_, (16), (by first | rfl | (simp; done) | (simp [*]; done)), H', ⟨by first | omega | exact Nat.le_refl _⟩, ⟨by (with_reducible repeat (first | refine blk_drewN ?_ _ | refine blk_drew ?_ | refine blk_alloc ?_ _)); exact BK314.out⟩, ⟨by repeat (first | (with_reducible first | exact HB.out | apply below_alloc | apply pw_below_drewN | apply below_drew1 | refine below_set ?_ GE314.out) | exact HB.out)⟩⟩
 case rest =>
  clear HC3
  (try clear c1); (try clear p2); (try clear c6); (try clear hcz5_0); (try clear hcz5_1); (try clear hcz5_2); (try clear hcz5_3); (try clear hcz5_4); (try clear hfz5_0); (try clear hfz5_1); (try clear hfz5_2); (try clear hfz5_3); (try clear hfz5_4)
  obtain ⟨kq, x3_2, rfl, HA, HJ2, BK314, HB⟩ := hcut
  cases kq with
  | zero => exact absurd HA.out (by simp [spliceref02_Put.j0])
  | succ kj2 =>
   have H := HA.out
   clear HA
   simp only [spliceref02_Put.j0] at H
   replace H := Option.bind_eq_some_iff.mp H
   obtain ⟨t316, A70, H⟩ := H
   replace H : (if t316 = true then ((spliceref01_Cut.f kj2 a0_4 24).bind fun t317 => (some ((((wrap64 ((wrap64 ((wrap64 ((wrap64 (a0_0 * 16777216)) + (wrap64 (a0_1 * 1048576)))) + (wrap64 (a0_2 * 65536)))) + a0_3)) % 4294967296) + t317) % 4294967296))) else ((spliceref01_Cut.f kj2 a0_4 x3_2).bind fun t318 => (some ((((wrap64 ((wrap64 ((wrap64 ((wrap64 (a0_0 * 16777216)) + (wrap64 (a0_1 * 1048576)))) + (wrap64 (a0_2 * 65536)))) + a0_3)) % 4294967296) + t318) % 4294967296)))) = some r := H
   have A7 := Aside0.mk A70
   clear A70
   by_cases c8 : t316 = true
   ·
    subst c8
    have H1 : ((spliceref01_Cut.f kj2 a0_4 24).bind fun t317 => (some ((((wrap64 ((wrap64 ((wrap64 ((wrap64 (a0_0 * 16777216)) + (wrap64 (a0_1 * 1048576)))) + (wrap64 (a0_2 * 65536)))) + a0_3)) % 4294967296) + t317) % 4294967296))) = some r := by rw [if_pos rfl] at H; exact H
    clear H
    have H := H1
    clear H1
    replace H := Option.bind_eq_some_iff.mp H
    obtain ⟨t317, A90, H⟩ := H
    replace H : (some ((((wrap64 ((wrap64 ((wrap64 ((wrap64 (a0_0 * 16777216)) + (wrap64 (a0_1 * 1048576)))) + (wrap64 (a0_2 * 65536)))) + a0_3)) % 4294967296) + t317) % 4294967296)) = some r := H
    have A9 := Aside0.mk A90
    clear A90
    obtain rfl := Option.some.inj H
    have hcz10_0 : wc.cell? ⟨gb314, 0, none⟩ = some (.int .i64 a0_0) := (blk_cell BK314.out 0).trans rfl
    have hcz10_1 : wc.cell? ⟨gb314, 1, none⟩ = some (.int .i64 a0_1) := (blk_cell BK314.out 1).trans rfl
    have hcz10_2 : wc.cell? ⟨gb314, 2, none⟩ = some (.int .i64 a0_2) := (blk_cell BK314.out 2).trans rfl
    have hcz10_3 : wc.cell? ⟨gb314, 3, none⟩ = some (.int .i64 a0_3) := (blk_cell BK314.out 3).trans rfl
    have hcz10_4 : wc.cell? ⟨gb314, 4, none⟩ = some (.int .i64 a0_4) := (blk_cell BK314.out 4).trans rfl
    have hfz10_0 := blk_frozen BK314.out 0
    have hfz10_1 := blk_frozen BK314.out 1
    have hfz10_2 := blk_frozen BK314.out 2
    have hfz10_3 := blk_frozen BK314.out 3
    have hfz10_4 := blk_frozen BK314.out 4
    go_wp2_with (first | (go_at_call 32; (with_reducible refine (spliceref02_far.calls a0_0 true _ A7.out).mono ?_); rintro e w' ⟨rfl, ⟨nd, rfl⟩⟩; (try first | exact ⟨rfl, _, World.drewN_drewN _ _ _⟩ | exact ⟨rfl, _, Eq.trans (World.drewN_drewN _ _ _) (congrArg (World.drewN _) (Nat.add_assoc _ _ _))⟩)) | (go_at_call 38; (with_reducible refine (spliceref01_Cut.calls kj2 a0_4 24 t317 _ A9.out).mono ?_); rintro e w' ⟨rfl, ⟨nd, rfl⟩⟩; (try first | exact ⟨rfl, _, World.drewN_drewN _ _ _⟩ | exact ⟨rfl, _, Eq.trans (World.drewN_drewN _ _ _) (congrArg (World.drewN _) (Nat.add_assoc _ _ _))⟩)))
    repeat (go_quiet (first | (go_at_call 32; (with_reducible refine (spliceref02_far.calls a0_0 true _ A7.out).mono ?_); rintro e w' ⟨rfl, ⟨nd, rfl⟩⟩; (try first | exact ⟨rfl, _, World.drewN_drewN _ _ _⟩ | exact ⟨rfl, _, Eq.trans (World.drewN_drewN _ _ _) (congrArg (World.drewN _) (Nat.add_assoc _ _ _))⟩)) | (go_at_call 38; (with_reducible refine (spliceref01_Cut.calls kj2 a0_4 24 t317 _ A9.out).mono ?_); rintro e w' ⟨rfl, ⟨nd, rfl⟩⟩; (try first | exact ⟨rfl, _, World.drewN_drewN _ _ _⟩ | exact ⟨rfl, _, Eq.trans (World.drewN_drewN _ _ _) (congrArg (World.drewN _) (Nat.add_assoc _ _ _))⟩))); try go_wp2_with (first | (go_at_call 32; (with_reducible refine (spliceref02_far.calls a0_0 true _ A7.out).mono ?_); rintro e w' ⟨rfl, ⟨nd, rfl⟩⟩; (try first | exact ⟨rfl, _, World.drewN_drewN _ _ _⟩ | exact ⟨rfl, _, Eq.trans (World.drewN_drewN _ _ _) (congrArg (World.drewN _) (Nat.add_assoc _ _ _))⟩)) | (go_at_call 38; (with_reducible refine (spliceref01_Cut.calls kj2 a0_4 24 t317 _ A9.out).mono ?_); rintro e w' ⟨rfl, ⟨nd, rfl⟩⟩; (try first | exact ⟨rfl, _, World.drewN_drewN _ _ _⟩ | exact ⟨rfl, _, Eq.trans (World.drewN_drewN _ _ _) (congrArg (World.drewN _) (Nat.add_assoc _ _ _))⟩))))
    go_ret
    exact ⟨by first | rfl | (simp [errW_none, errW_some] <;> rfl) | (simp [*, errW_none, errW_some] <;> rfl), by repeat (first | (with_reducible first | exact HB.out | apply below_alloc | apply pw_below_drewN | apply below_drew1 | refine below_set ?_ GE314.out) | exact HB.out)⟩
   ·
    replace c8 := Bool.eq_false_iff.mpr c8
    subst c8
    have H1 : ((spliceref01_Cut.f kj2 a0_4 x3_2).bind fun t318 => (some ((((wrap64 ((wrap64 ((wrap64 ((wrap64 (a0_0 * 16777216)) + (wrap64 (a0_1 * 1048576)))) + (wrap64 (a0_2 * 65536)))) + a0_3)) % 4294967296) + t318) % 4294967296))) = some r := by rw [if_neg (show ¬ (false = true) by decide)] at H; exact H
    clear H
    have H := H1
    clear H1
    replace H := Option.bind_eq_some_iff.mp H
    obtain ⟨t318, A110, H⟩ := H
    replace H : (some ((((wrap64 ((wrap64 ((wrap64 ((wrap64 (a0_0 * 16777216)) + (wrap64 (a0_1 * 1048576)))) + (wrap64 (a0_2 * 65536)))) + a0_3)) % 4294967296) + t318) % 4294967296)) = some r := H
    have A11 := Aside0.mk A110
    clear A110
    obtain rfl := Option.some.inj H
    have hcz12_0 : wc.cell? ⟨gb314, 0, none⟩ = some (.int .i64 a0_0) := (blk_cell BK314.out 0).trans rfl
    have hcz12_1 : wc.cell? ⟨gb314, 1, none⟩ = some (.int .i64 a0_1) := (blk_cell BK314.out 1).trans rfl
    have hcz12_2 : wc.cell? ⟨gb314, 2, none⟩ = some (.int .i64 a0_2) := (blk_cell BK314.out 2).trans rfl
    have hcz12_3 : wc.cell? ⟨gb314, 3, none⟩ = some (.int .i64 a0_3) := (blk_cell BK314.out 3).trans rfl
    have hcz12_4 : wc.cell? ⟨gb314, 4, none⟩ = some (.int .i64 a0_4) := (blk_cell BK314.out 4).trans rfl
    have hfz12_0 := blk_frozen BK314.out 0
    have hfz12_1 := blk_frozen BK314.out 1
    have hfz12_2 := blk_frozen BK314.out 2
    have hfz12_3 := blk_frozen BK314.out 3
    have hfz12_4 := blk_frozen BK314.out 4
    go_wp2_with (first | (go_at_call 32; (with_reducible refine (spliceref02_far.calls a0_0 false _ A7.out).mono ?_); rintro e w' ⟨rfl, ⟨nd, rfl⟩⟩; (try first | exact ⟨rfl, _, World.drewN_drewN _ _ _⟩ | exact ⟨rfl, _, Eq.trans (World.drewN_drewN _ _ _) (congrArg (World.drewN _) (Nat.add_assoc _ _ _))⟩)) | (go_at_call 38; (with_reducible refine (spliceref01_Cut.calls kj2 a0_4 x3_2 t318 _ A11.out).mono ?_); rintro e w' ⟨rfl, ⟨nd, rfl⟩⟩; (try first | exact ⟨rfl, _, World.drewN_drewN _ _ _⟩ | exact ⟨rfl, _, Eq.trans (World.drewN_drewN _ _ _) (congrArg (World.drewN _) (Nat.add_assoc _ _ _))⟩)))
    repeat (go_quiet (first | (go_at_call 32; (with_reducible refine (spliceref02_far.calls a0_0 false _ A7.out).mono ?_); rintro e w' ⟨rfl, ⟨nd, rfl⟩⟩; (try first | exact ⟨rfl, _, World.drewN_drewN _ _ _⟩ | exact ⟨rfl, _, Eq.trans (World.drewN_drewN _ _ _) (congrArg (World.drewN _) (Nat.add_assoc _ _ _))⟩)) | (go_at_call 38; (with_reducible refine (spliceref01_Cut.calls kj2 a0_4 x3_2 t318 _ A11.out).mono ?_); rintro e w' ⟨rfl, ⟨nd, rfl⟩⟩; (try first | exact ⟨rfl, _, World.drewN_drewN _ _ _⟩ | exact ⟨rfl, _, Eq.trans (World.drewN_drewN _ _ _) (congrArg (World.drewN _) (Nat.add_assoc _ _ _))⟩))); try go_wp2_with (first | (go_at_call 32; (with_reducible refine (spliceref02_far.calls a0_0 false _ A7.out).mono ?_); rintro e w' ⟨rfl, ⟨nd, rfl⟩⟩; (try first | exact ⟨rfl, _, World.drewN_drewN _ _ _⟩ | exact ⟨rfl, _, Eq.trans (World.drewN_drewN _ _ _) (congrArg (World.drewN _) (Nat.add_assoc _ _ _))⟩)) | (go_at_call 38; (with_reducible refine (spliceref01_Cut.calls kj2 a0_4 x3_2 t318 _ A11.out).mono ?_); rintro e w' ⟨rfl, ⟨nd, rfl⟩⟩; (try first | exact ⟨rfl, _, World.drewN_drewN _ _ _⟩ | exact ⟨rfl, _, Eq.trans (World.drewN_drewN _ _ _) (congrArg (World.drewN _) (Nat.add_assoc _ _ _))⟩))))
    go_ret
    exact ⟨by first | rfl | (simp [errW_none, errW_some] <;> rfl) | (simp [*, errW_none, errW_some] <;> rfl), by repeat (first | (with_reducible first | exact HB.out | apply below_alloc | apply pw_below_drewN | apply below_drew1 | refine below_set ?_ GE314.out) | exact HB.out)⟩

end Go.Proofs.Ytgaggfekgkedpaa.Q
end
section
/- Behind a call and a Ret: the plain law of CpuCalls. Own work; a template. -/
namespace Go.Proofs.Ytgaggfekgkedpaa.Cpu
open Go.RowKit Go.Proofs.YtgaggfekgkedpaaW.PrintWords Go.Proofs.YtgaggfekgkedpaaW.PrintLast Go.Proofs.YtgaggfekgkedpaaW.PrintMore Go.Proofs.Ytgaggfekgkedpaa.Hp Go.Proofs.Ytgaggfekgkedpaa.Q Go.Proofs.Ytgaggfekgkedpaa.Code
set_option linter.unusedVariables false
theorem rd_set_ne {l : List Int} {i j : Nat} {v : Int} (h : i ≠ j) : rd (l.set i v) (j : Int) = rd l (j : Int) := by
  unfold rd
  rw [Int.toNat_natCast, List.getD_eq_getElem?_getD, List.getElem?_set_ne h, ← List.getD_eq_getElem?_getD]
theorem rd_set_eq {l : List Int} {i : Nat} {v : Int} (h : i < l.length) : rd (l.set i v) (i : Int) = v := by
  unfold rd
  rw [Int.toNat_natCast, List.getD_eq_getElem?_getD, List.getElem?_set_self h]
  rfl
theorem rt20 {imm : Int} (h : -8388608 ≤ imm ∧ imm ≤ 8388607) : Rt 20 0 0 0 imm := by
  unfold Rt
  first | omega | (simp; omega)
theorem ret_word : gW 352321536 = some (21, 0, 0, 0, 0) := by kernel_rfl
theorem calls_law (t : St) (l : List Int) (at_ place : Nat) (hat : t.at_ = (at_ : Int)) (he : t.en = false) (ha : at_ ≤ 200) (hp : place ≤ 255) (hne : at_ ≠ place) (h1 : at_ < l.length) (h2 : place < l.length) :
    ∀ l1, l1 = (l.set at_ (word 20 0 0 0 ((place : Int) - at_ - 1))).set place 352321536 → t.step l1 = { t with back := t.back ++ [t.at_ + 1], at_ := (place : Int) } ∧ (t.step l1).step l1 = { t with at_ := t.at_ + 1 } := by
  intro l1 hl1
  have e1 : rd l1 (at_ : Int) = word 20 0 0 0 ((place : Int) - at_ - 1) := by rw [hl1, rd_set_ne (Ne.symm hne), rd_set_eq h1]
  have e2 : rd l1 (place : Int) = 352321536 := by rw [hl1, rd_set_eq (by rw [List.length_set]; exact h2)]
  have hlen : l1.length = l.length := by rw [hl1, List.length_set, List.length_set]
  have g1 : gW (rd l1 t.at_) = some (20, 0, 0, 0, (place : Int) - at_ - 1) := by rw [hat, e1]; exact gW_word (rt20 (by omega))
  have w1 : wrap64 (t.at_ + 1) = t.at_ + 1 := by unfold wrap64; omega
  have hT : t.step l1 = { t with back := t.back ++ [t.at_ + 1], at_ := (place : Int) } := by
    unfold St.step
    rw [if_neg (by rw [he]; simp), if_neg (by omega), g1]
    show St.does t ⟨20, 0, 0, 0, (place : Int) - at_ - 1⟩ = _
    unfold St.does
    rw [if_neg (show ¬ kindF 20 = 0 by decide), if_neg (show ¬ kindF 20 = 1 by decide), if_neg (show ¬ kindF 20 = 5 by decide)]
    unfold St.leads
    rw [if_pos rfl, if_pos (.inl rfl), w1]
    congr 1
    show wrap64 (t.at_ + 1 + ((place : Int) - at_ - 1)) = _
    unfold wrap64
    omega
  refine ⟨hT, ?_⟩
  rw [hT]
  unfold St.step
  rw [if_neg (by show ¬ t.en = true; rw [he]; simp), if_neg (by show ¬ ((place : Int) < 0 ∨ (l1.length : Int) ≤ place); omega)]
  show (match gW (rd l1 (place : Int)) with | none => _ | some (o, a, b, c, i) => _) = _
  rw [e2, ret_word]
  show St.does _ ⟨21, 0, 0, 0, 0⟩ = _
  unfold St.does
  rw [if_neg (by decide), if_neg (by decide), if_pos (by decide)]
  unfold St.ends
  rw [if_neg (by decide), if_neg (by decide), if_neg (by simp)]
  have ez : ((t.back ++ [t.at_ + 1]).length : Int) - 1 = (t.back.length : Int) := by simp
  have en : (t.back ++ [t.at_ + 1]).length - 1 = t.back.length := by simp
  simp only [ez, en]
  have er : rd (t.back ++ [t.at_ + 1]) (t.back.length : Int) = t.at_ + 1 := by
    unfold rd
    rw [Int.toNat_natCast, List.getD_eq_getElem?_getD, List.getElem?_append_right (Nat.le_refl _), Nat.sub_self]
    rfl
  rw [er, List.take_left]
end Go.Proofs.Ytgaggfekgkedpaa.Cpu
end
section
/- The law CpuCalls: its contract. Own work; a template, printed by gen_calls.py. -/
namespace Go.Proofs.Ytgaggfekgkedpaa.Cpu
open Go.RowKit Go.Proofs.YtgaggfekgkedpaaW.PrintWords Go.Proofs.YtgaggfekgkedpaaW.PrintLast Go.Proofs.YtgaggfekgkedpaaW.PrintMore Go.Proofs.Ytgaggfekgkedpaa.Hp Go.Proofs.Ytgaggfekgkedpaa.Q Go.Proofs.Ytgaggfekgkedpaa.Code
set_option linter.unusedVariables false
set_option linter.unusedSimpArgs false
attribute [local go_sem] add_any
theorem sameF_refl (t : St) : sameF t t = true := by simp [sameF]
theorem own_set {k : IntKind} {e : TypeId} {g n cap p : Nat} {cur : Array Value} {l : List Int} {v : Int} (h : Own k e g cur n cap l) (hp : p < n) : Own k e g (putSeg cur p (Value.int k v).cells.toList) n cap (l.set p v) := by
  have hs := h.size
  have hle := h.le
  refine ⟨?_, by rw [List.length_set]; exact h.len, h.le, ?_, h.max⟩
  · apply List.ext_getElem?
    intro i
    have ht := congrArg (fun q => q[i]?) h.take
    simp only [List.getElem?_take] at ht
    simp only [putSeg, Value.cells, List.getElem?_take, List.getElem?_append, List.length_append, List.length_take, Array.length_toList, List.length_cons, List.length_nil, List.getElem?_drop]
    simp only [nums, List.getElem?_map, List.getElem?_set] at ht ⊢
    have hl := h.len
    rw [Nat.min_eq_left (by omega : p ≤ cur.size)]
    rcases Nat.lt_trichotomy i p with hi | hi | hi
    · rw [if_pos (by omega : i < n)] at ht
      rw [if_pos (by omega : i < n), if_pos (by omega), if_pos hi, if_pos hi, if_neg (by omega : ¬ p = i)]
      exact ht
    · subst hi
      rw [if_pos hp, if_pos (by omega), if_neg (by omega), if_pos rfl, if_pos (by omega), Nat.sub_self]
      rfl
    · rw [if_neg (by omega : ¬ i < p + (0 + 1)), if_neg (by omega : ¬ p = i), show p + (0 + 1) + (i - (p + (0 + 1))) = i by omega]
      exact ht
  · simp [putSeg, Value.cells]
    omega
/-- A store into a block that is known. -/
theorem hp_storeXG {P : Program} {ops : Array Oper} {rest : List Oper} {o : Oper} {a : Act} {Q : Exit → Act → World → Prop} {W : World} (hgd : o.guard = none) {ty : TypeId} {x y : Operand} (ho : o.op = .store ty x y) (hd : o.dst = none) {g off : Nat} (hx : a.eval x = .pointer (some ⟨g, off, none⟩)) {cs : Array Value} {t : TypeId} (hg : W.heap[g]? = some (.cells cs t (0, 0)))
    {v : Value} (hy : a.eval y = v) (hi : (P.info? ty).map (·.size) = some v.cells.size) (hfit : Nat.ble (off + v.cells.size) cs.size = true) (h1 : v.cells.toList.all (·.oneCell') = true) {cs' : Array Value} (hc : putSeg cs off v.cells.toList = cs')
    (h : ∀ W', W' = W.setRow g cs' → wpList P ops Q rest a W') : WpS P ops Q (o :: rest) a W := ⟨by
  subst hc hy
  refine wpList_plain hgd fun K hK => ?_
  unfold Oper.wp execOp
  simp only [ho, hx, Instr.storeAt, Instr.sureAddr, Sem.run_bind, Sem.run_pure, Result.andThen_ok, run_sto W g off ty t cs _ hg hi (Nat.le_of_ble_eq_true hfit) h1]
  show K (a.put o.dst undef) _
  rw [hd]
  exact hK _ _ (h _ rfl)⟩
set_option maxHeartbeats 40000000 in
set_option maxRecDepth 100000 in
theorem calls_turned (A : Option Addr) (n c : Nat) (s : SV) (t : St) (u : Int) (w : World) (h : Aside0 (Rd w s t)) (b1 b2 b3 b4 : Bool) (hf : Aside0 (fewF t = b1)) (h3 : decide ((n : Int) > 300) = b2) (h3' : decide (300 < n) = b2) (ha : decide (s.at_ > 200) = b3) (qe : Aside0 (s.c[22]? = some (.bool b4))) (hq : (!b1 || b2 || b3 || b4) = true) :
    Calls Try.prog 5 #[.slice A n c, .agg s.c, .int .u8 u] w fun e w' => e = .returned (.bool true) ∧ Below w.heap.size w w' := by
  have H := Hp.nil w
  have qa : Aside0 (s.c[0]? = some (.int .i64 s.at_)) := ⟨rfl⟩
  cases b1 <;> cases b2 <;> cases b3 <;> cases b4 <;> first | (exfalso; revert hq; decide) | skip
  all_goals clear hq
  all_goals go_enter Try.func5, Try.ntmps5
  all_goals go_wp2_with (first | ((with_reducible refine gate_guardG ?_); refine hp_guardLG rfl rfl ?_; (with_reducible first | refine go_tt ?_ | refine go_ff ?_ | refine go_tf ?_ | refine go_ft ?_); (try simp only [Act.put, List.setIfInBounds_toArray, List.set_cons_zero, List.set_cons_succ])) | ((with_reducible refine gate_dst (N := 4) rfl ?_); refine hp_box H rfl rfl rfl ?_; intro gs W_ H_; clear H; have H := H_; clear H_) | ((with_reducible refine gate_fnG ?_); (refine hp_goesG H rfl (f := 7) rfl Try.func7 (by kernel_rfl) rfl (awake_c _) (by (try simp only [List.map_toArray, List.map_cons, List.map_nil]); first | done | rfl) ?_; rintro e_ W_ ⟨rfl, hb_⟩; refine ⟨_, rfl, hb_, fun H_ => ?_⟩; clear H; have H := H_; clear H_); (try simp only [Act.put, List.setIfInBounds_toArray, List.set_cons_zero, List.set_cons_succ])) | ((with_reducible refine gate_fnG ?_); (refine hp_goesG H rfl (f := 8) rfl Try.func8 (by kernel_rfl) rfl (few_c s t _ ⟨h.out.below H.below⟩ hf.out) (by (try simp only [List.map_toArray, List.map_cons, List.map_nil]); first | done | rfl) ?_; rintro e_ W_ ⟨rfl, hb_⟩; refine ⟨_, rfl, hb_, fun H_ => ?_⟩; clear H; have H := H_; clear H_); (try simp only [Act.put, List.setIfInBounds_toArray, List.set_cons_zero, List.set_cons_succ])) | ((with_reducible refine gate_dst (N := 14) rfl ?_); ((with_reducible refine gate_loadG ?_); (first | (refine hp_wholeG H rfl (ty := 32) rfl rfl (by repeat (first | exact .head _ | refine .tail _ ?_)) (by kernel_rfl) (by kernel_rfl) ?_)); (try simp only [Act.put, List.setIfInBounds_toArray, List.set_cons_zero, List.set_cons_succ]))) | ((with_reducible refine gate_dst (N := 25) rfl ?_); ((with_reducible refine gate_loadG ?_); (refine hp_loadG H rfl rfl rfl (by repeat (first | exact .head _ | refine .tail _ ?_)) (by kernel_rfl) (by first | exact qa.out) ?_); (try simp only [Act.put, List.setIfInBounds_toArray, List.set_cons_zero, List.set_cons_succ]))) | ((with_reducible refine gate_dst (N := 30) rfl ?_); ((with_reducible refine gate_loadG ?_); (refine hp_loadG H rfl rfl rfl (by repeat (first | exact .head _ | refine .tail _ ?_)) (by kernel_rfl) (by first | exact qe.out) ?_); (try simp only [Act.put, List.setIfInBounds_toArray, List.set_cons_zero, List.set_cons_succ]))))
  all_goals go_ret
  all_goals exact ⟨rfl, H.below⟩
set_option maxHeartbeats 40000000 in
set_option maxRecDepth 100000 in
theorem calls_main (A : Option Addr) (n c : Nat) (ws : List Int) (s : SV) (t : St) (k place : Nat) (w : World) (h : Aside0 (Rd w s t)) (hl : Aside0 (RdS .u32 w A n c ws)) (hws : Aside0 (∀ x ∈ ws, U32 x)) (hu : Aside0 (∀ x ∈ t.inp, 0 ≤ x ∧ x ≤ 255)) (hf : Aside0 (fewF t = true)) (h3 : decide ((n : Int) > 300) = false) (h3' : decide (300 < n) = false) (hk : Aside0 (s.at_ = (k : Int) ∧ k ≤ 200)) (he : Aside0 (t.en = false)) (hp : Aside0 (place ≤ 255)) :
    Calls Try.prog 5 #[.slice A n c, .agg s.c, .int .u8 (place : Int)] w fun e w' => e = .returned (.bool true) ∧ Below w.heap.size w w' := by
  have H := Hp.nil w
  have hb := Aside0.mk (few_b h.out hf.out)
  have hn3 : Aside0 (n ≤ 300) := ⟨by simpa using h3'⟩
  have qa : Aside0 (s.c[0]? = some (.int .i64 (k : Int))) := ⟨by rw [g_at, hk.out.1]⟩
  have qe : Aside0 (s.c[22]? = some (.bool false)) := ⟨by rw [g_en, h.out.en, he.out]⟩
  have ha : decide ((k : Int) > 200) = false := by have := hk.out.2; simp; omega
  have ha' : decide (200 < k) = false := by have := hk.out.2; simp; omega
  have hpw : wrap64 (place : Int) = (place : Int) := by have := hp.out; unfold wrap64; omega
  go_enter Try.func5, Try.ntmps5
  go_wp2_with (first | ((with_reducible refine gate_guardG ?_); refine hp_guardLG rfl rfl ?_; (with_reducible first | refine go_tt ?_ | refine go_ff ?_ | refine go_tf ?_ | refine go_ft ?_); (try simp only [Act.put, List.setIfInBounds_toArray, List.set_cons_zero, List.set_cons_succ])) | ((with_reducible refine gate_dst (N := 4) rfl ?_); refine hp_box H rfl rfl rfl ?_; intro gs W_ H_; clear H; have H := H_; clear H_) | ((with_reducible refine gate_fnG ?_); (refine hp_goesG H rfl (f := 7) rfl Try.func7 (by kernel_rfl) rfl (awake_c _) (by (try simp only [List.map_toArray, List.map_cons, List.map_nil]); first | done | rfl) ?_; rintro e_ W_ ⟨rfl, hb_⟩; refine ⟨_, rfl, hb_, fun H_ => ?_⟩; clear H; have H := H_; clear H_); (try simp only [Act.put, List.setIfInBounds_toArray, List.set_cons_zero, List.set_cons_succ])) | ((with_reducible refine gate_fnG ?_); (refine hp_goesG H rfl (f := 8) rfl Try.func8 (by kernel_rfl) rfl (few_c s t _ ⟨h.out.below H.below⟩ hf.out) (by (try simp only [List.map_toArray, List.map_cons, List.map_nil]); first | done | rfl) ?_; rintro e_ W_ ⟨rfl, hb_⟩; refine ⟨_, rfl, hb_, fun H_ => ?_⟩; clear H; have H := H_; clear H_); (try simp only [Act.put, List.setIfInBounds_toArray, List.set_cons_zero, List.set_cons_succ])) | ((with_reducible refine gate_dst (N := 14) rfl ?_); ((with_reducible refine gate_loadG ?_); (first | (refine hp_wholeG H rfl (ty := 32) rfl rfl (by repeat (first | exact .head _ | refine .tail _ ?_)) (by kernel_rfl) (by kernel_rfl) ?_)); (try simp only [Act.put, List.setIfInBounds_toArray, List.set_cons_zero, List.set_cons_succ]))) | ((with_reducible refine gate_dst (N := 25) rfl ?_); ((with_reducible refine gate_loadG ?_); (refine hp_loadG H rfl rfl rfl (by repeat (first | exact .head _ | refine .tail _ ?_)) (by kernel_rfl) (by first | exact qa.out) ?_); (try simp only [Act.put, List.setIfInBounds_toArray, List.set_cons_zero, List.set_cons_succ]))) | ((with_reducible refine gate_dst (N := 30) rfl ?_); ((with_reducible refine gate_loadG ?_); (refine hp_loadG H rfl rfl rfl (by repeat (first | exact .head _ | refine .tail _ ?_)) (by kernel_rfl) (by first | exact qe.out) ?_); (try simp only [Act.put, List.setIfInBounds_toArray, List.set_cons_zero, List.set_cons_succ]))) | ((with_reducible refine gate_litG ?_); (refine hp_litG H rfl rfl (by first | (go_simp; done) | (go_simp; rfl)) ?_; intro g_ W_ H_; clear H; have H := H_; clear H_); (try simp only [Act.put, List.setIfInBounds_toArray, List.set_cons_zero, List.set_cons_succ])) | ((with_reducible refine gate_appG ?_); (refine hp_appG H rfl rfl Try.underlying22 (k := .u32) 4 (by kernel_rfl) (by decide) rfl (by first | exact List.Perm.refl _ | exact List.Perm.swap _ _ _) (lit_own _ _ _) rfl (hl.out.below H.below) (by have := hn3.out; omega) (by first | exact Nat.zero_add _ | rfl) (by first | exact List.nil_append _ | rfl) ?_; intro gL curL capL W_ hoL H_; replace hoL := Aside0.mk hoL; clear H; have H := H_; clear H_); (try simp only [Act.put, List.setIfInBounds_toArray, List.set_cons_zero, List.set_cons_succ])))
  go_loopg [7] ((max k place + 1) - n) (fun kq v7 w' => ∃ (j g : Nat) (cur : Array Value) (cap : Nat), v7 = .slice (some ⟨g, 0, none⟩) (n + j) cap ∧ Aside0 (kq = (max k place + 1) - (n + j) ∧ n + j ≤ 600) ∧ Aside0 (Own .u32 26 g cur (n + j) cap (ws ++ List.replicate j 402653184)) ∧ Hp w w' [(g, cur, 26), (gs, s.c, 32)])
  case atStart => exact ⟨0, gL, curL, capL, rfl, ⟨rfl, by have := hn3.out; omega⟩, ⟨by simpa using hoL.out⟩, H⟩
  case round =>
    clear H hoL
    obtain ⟨j, gX, curX, capX, rfl, hkq, hoX, H⟩ := hrel
    by_cases hc : n + j ≤ k ∨ n + j ≤ place
    · have d2 : ∃ b1 b2, decide (n + j ≤ k) = b1 ∧ decide (n + j ≤ place) = b2 ∧ (b1 || b2) = true := ⟨_, _, rfl, rfl, by simpa using hc⟩
      obtain ⟨b1, b2, d0, d1, hb12⟩ := d2
      have z0 : decide ((n : Int) + (j : Int) ≤ (k : Int)) = b1 := by rw [← d0]; exact decide_eq_decide.2 (by omega)
      have z1 : decide ((n : Int) + (j : Int) ≤ (place : Int)) = b2 := by rw [← d1]; exact decide_eq_decide.2 (by omega)
      replace hc := Aside0.mk hc
      cases b1 <;> cases b2 <;> first | (exfalso; revert hb12; decide) | skip
      all_goals clear hb12
      all_goals go_wp2_with (first | ((with_reducible refine gate_guardG ?_); refine hp_guardLG rfl rfl ?_; (with_reducible first | refine go_tt ?_ | refine go_ff ?_ | refine go_tf ?_ | refine go_ft ?_); (try simp only [Act.put, List.setIfInBounds_toArray, List.set_cons_zero, List.set_cons_succ])) | ((with_reducible refine gate_loadG ?_); (refine hp_loadG H rfl rfl rfl (by repeat (first | exact .head _ | refine .tail _ ?_)) (by kernel_rfl) (by first | exact qa.out) ?_); (try simp only [Act.put, List.setIfInBounds_toArray, List.set_cons_zero, List.set_cons_succ])) | ((with_reducible refine gate_litG ?_); (refine hp_litG H rfl rfl (by first | (go_simp; done) | (go_simp; rfl)) ?_; intro g_ W_ H_; clear H; have H := H_; clear H_); (try simp only [Act.put, List.setIfInBounds_toArray, List.set_cons_zero, List.set_cons_succ])) | ((with_reducible refine gate_appG ?_); (refine hp_appG H rfl rfl Try.underlying22 (k := .u32) 4 (by kernel_rfl) (by decide) rfl (by first | exact List.Perm.refl _ | exact List.Perm.swap _ _ _) (hoX.out) rfl (H.rds (cur := #[.int .u32 402653184]) (l := [402653184]) (.head _) rfl rfl (by decide) (by decide)) (by have := hkq.out.2; omega) (by first | exact Nat.zero_add _ | rfl) (by first | exact List.nil_append _ | rfl) ?_; intro gY curY capY W_ hoY H_; replace hoY := Aside0.mk hoY; clear H; have H := H_; clear H_); (try simp only [Act.put, List.setIfInBounds_toArray, List.set_cons_zero, List.set_cons_succ])))
      all_goals
        go_roundg (gk - 1)
        case measure => have := hkq.out; have := hc.out; omega
        case rel => exact ⟨j + 1, gY, curY, capY, rfl, ⟨by have := hkq.out; have := hc.out; omega, by have := hkq.out; have := hc.out; have := hp.out; have := hk.out.2; omega⟩, ⟨by rw [List.replicate_succ', ← List.append_assoc]; exact hoY.out⟩, H.sub (.cons_cons _ (.cons _ (.refl _)))⟩
    · have d0 : decide (n + j ≤ k) = false := by simp; omega
      have d1 : decide (n + j ≤ place) = false := by simp; omega
      have z0 : decide ((n : Int) + (j : Int) ≤ (k : Int)) = false := decide_eq_false (by omega)
      have z1 : decide ((n : Int) + (j : Int) ≤ (place : Int)) = false := decide_eq_false (by omega)
      have hkl : k < n + j := by omega
      have hpl : place < n + j := by omega
      clear hc
      by_cases hpe : place = k
      · subst hpe
        go_wp2_with (first | ((with_reducible refine gate_guardG ?_); refine hp_guardLG rfl rfl ?_; (with_reducible first | refine go_tt ?_ | refine go_ff ?_ | refine go_tf ?_ | refine go_ft ?_); (try simp only [Act.put, List.setIfInBounds_toArray, List.set_cons_zero, List.set_cons_succ])) | ((with_reducible refine gate_loadG ?_); (refine hp_loadG H rfl rfl rfl (by repeat (first | exact .head _ | refine .tail _ ?_)) (by kernel_rfl) (by first | exact qa.out) ?_); (try simp only [Act.put, List.setIfInBounds_toArray, List.set_cons_zero, List.set_cons_succ])))
        go_ret
        exact ⟨rfl, H.below⟩
      · have e1 : ((place : Int) == (k : Int)) = false := by simp; omega
        have e2 : (place == k) = false := by simp; exact hpe
        replace hpe := Aside0.mk hpe
        go_wp2_with (first | ((with_reducible refine gate_guardG ?_); refine hp_guardLG rfl rfl ?_; (with_reducible first | refine go_tt ?_ | refine go_ff ?_ | refine go_tf ?_ | refine go_ft ?_); (try simp only [Act.put, List.setIfInBounds_toArray, List.set_cons_zero, List.set_cons_succ])) | ((with_reducible refine gate_loadG ?_); (refine hp_loadG H rfl rfl rfl (by repeat (first | exact .head _ | refine .tail _ ?_)) (by kernel_rfl) (by first | exact qa.out) ?_); (try simp only [Act.put, List.setIfInBounds_toArray, List.set_cons_zero, List.set_cons_succ])))
        have hg0 := Aside0.mk (H.blk (gs, s.c, 32) (by repeat (first | exact .head _ | refine .tail _ ?_))).1
        have H0 := H.drew
        clear H
        have H := H0
        clear H0
        have hs1 : IntKind.i64.wrap ((place : Int) - (k : Int)) = (place : Int) - (k : Int) := by have := hp.out; have := hk.out.2; rw [IntKind.wrap_i64]; omega
        have hs2 : IntKind.i64.wrap ((place : Int) - (k : Int) - 1) = (place : Int) - (k : Int) - 1 := by have := hp.out; have := hk.out.2; rw [IntKind.wrap_i64]; omega
        have ht1 : wrap64 ((place : Int) - (k : Int)) = (place : Int) - (k : Int) := by have := hp.out; have := hk.out.2; unfold wrap64; omega
        have ht2 : wrap64 ((place : Int) - (k : Int) - 1) = (place : Int) - (k : Int) - 1 := by have := hp.out; have := hk.out.2; unfold wrap64; omega
        have hx1 : (k : Int) < (n : Int) + (j : Int) := by omega
        have hx2 : (place : Int) < (n : Int) + (j : Int) := by omega
        have hrt := Aside0.mk (rt20 (imm := (place : Int) - (k : Int) - 1) (by have := hp.out; have := hk.out.2; omega))
        refine wp_region_held_drew (S := fun W' => ∃ x : Array Value, Hp w W' [(gX, x, 26), (gs, s.c, 32)]) (by kernel_rfl) ⟨_, H⟩ (fun hHeld => ?_)
        change wpAnyH _ _ _ _ _ 12 (Array.replicate 12 false) _ _
        (refine hk_take (i := 0) (v := ?_) rfl (by kernel_rfl) (by kernel_rfl) (by kernel_rfl) (fun _ _ _ h => h) (Or.inl ⟨by rfl, ?_⟩) hHeld ?_; rotate_left 1; (intro w_ hSw_; go_simp; with_reducible rfl); (try simp only [Act.put, List.setIfInBounds_toArray, List.set_cons_zero, List.set_cons_succ])); (refine hk_take (i := 1) (v := ?_) rfl (by kernel_rfl) (by kernel_rfl) (by kernel_rfl) (fun _ _ _ h => h) (Or.inl ⟨by rfl, ?_⟩) hHeld ?_; rotate_left 1; (intro w_ hSw_; go_simp; with_reducible rfl); (try simp only [Act.put, List.setIfInBounds_toArray, List.set_cons_zero, List.set_cons_succ]))
        (refine hk_take (i := 2) rfl (by kernel_rfl) (by kernel_rfl) (by kernel_rfl) (fun _ _ _ h => h) (yl_load rfl rfl rfl (fun w_ ⟨x_, H_⟩ => H_.heap (by repeat (first | exact .head _ | refine .tail _ ?_))) (by kernel_rfl) qa.out) hHeld ?_; (try simp only [Act.put, List.setIfInBounds_toArray, List.set_cons_zero, List.set_cons_succ]))
        (refine hk_take (i := 3) (v := ?_) rfl (by kernel_rfl) (by kernel_rfl) (by kernel_rfl) (fun _ _ _ h => h) (Or.inl ⟨by rfl, ?_⟩) hHeld ?_; rotate_left 1; (intro w_ hSw_; go_simp; with_reducible rfl); (try simp only [Act.put, List.setIfInBounds_toArray, List.set_cons_zero, List.set_cons_succ])); (refine hk_take (i := 4) (v := ?_) rfl (by kernel_rfl) (by kernel_rfl) (by kernel_rfl) (fun _ _ _ h => h) (Or.inl ⟨by rfl, ?_⟩) hHeld ?_; rotate_left 1; (intro w_ hSw_; go_simp; with_reducible rfl); (try simp only [Act.put, List.setIfInBounds_toArray, List.set_cons_zero, List.set_cons_succ]))
        (refine hk_take (i := 5) rfl (by kernel_rfl) (by kernel_rfl) (by kernel_rfl) (fun _ _ _ h => h) (yl_load rfl rfl rfl (fun w_ ⟨x_, H_⟩ => H_.heap (by repeat (first | exact .head _ | refine .tail _ ?_))) (by kernel_rfl) qa.out) hHeld ?_; (try simp only [Act.put, List.setIfInBounds_toArray, List.set_cons_zero, List.set_cons_succ]))
        (refine hk_take (i := 6) (v := ?_) rfl (by kernel_rfl) (by kernel_rfl) (by kernel_rfl) (fun _ _ _ h => h) (Or.inl ⟨by rfl, ?_⟩) hHeld ?_; rotate_left 1; (intro w_ hSw_; go_simp; with_reducible rfl); (try simp only [Act.put, List.setIfInBounds_toArray, List.set_cons_zero, List.set_cons_succ])); (refine hk_take (i := 7) (v := ?_) rfl (by kernel_rfl) (by kernel_rfl) (by kernel_rfl) (fun _ _ _ h => h) (Or.inl ⟨by rfl, ?_⟩) hHeld ?_; rotate_left 1; (intro w_ hSw_; go_simp; with_reducible rfl); (try simp only [Act.put, List.setIfInBounds_toArray, List.set_cons_zero, List.set_cons_succ])); (refine hk_take (i := 8) (v := ?_) rfl (by kernel_rfl) (by kernel_rfl) (by kernel_rfl) (fun _ _ _ h => h) (Or.inl ⟨by rfl, ?_⟩) hHeld ?_; rotate_left 1; (intro w_ hSw_; go_simp; with_reducible rfl); (try simp only [Act.put, List.setIfInBounds_toArray, List.set_cons_zero, List.set_cons_succ]))
        (refine hk_op (i := 9) rfl (by kernel_rfl) (fun K hK => ?_))
        refine hs_goes0 rfl (f := 17) rfl Try.func17 (by kernel_rfl) rfl (spliceref02_Put.calls 42 20 0 0 0 ((place : Int) - (k : Int) - 1) _ _ (ref_put_eq (Nat.le_refl _) hrt.out)) (by (try simp only [List.map_toArray, List.map_cons, List.map_nil]); first | done | rfl) ?_
        rintro e_ W2_ ⟨rfl, hb_⟩
        refine ⟨_, rfl, ?_⟩
        replace H := H.call hb_
        refine hK.out _ _ ⟨_, H⟩ (fun hHeld => ?_)
        clear hK K
        (try simp only [Act.put, List.setIfInBounds_toArray, List.set_cons_zero, List.set_cons_succ])
        (refine hk_take (i := 10) (v := ?_) rfl (by kernel_rfl) (by kernel_rfl) (by kernel_rfl) (fun _ _ _ h => h) (Or.inl ⟨by rfl, ?_⟩) hHeld ?_; rotate_left 1; (intro w_ hSw_; go_simp; with_reducible rfl); (try simp only [Act.put, List.setIfInBounds_toArray, List.set_cons_zero, List.set_cons_succ]))
        (refine hk_op (i := 11) rfl (by kernel_rfl) (fun K hK => ?_))
        refine hs_store H rfl rfl rfl rfl (n := 0) rfl rfl (by kernel_rfl) (Nat.ble_eq_true_of_le (by have := hoX.out.size; have := hoX.out.le; show k + 1 ≤ curX.size; omega)) (by rfl) rfl rfl ?_
        intro W3_ H_
        refine hK.out _ _ ⟨_, H_⟩ (fun hHeld => ?_)
        clear hK K
        (try simp only [Act.put, List.setIfInBounds_toArray, List.set_cons_zero, List.set_cons_succ])
        (refine wpAnyH_done (by kernel_rfl) ?_ _)
        obtain ⟨cur1, ho1, H1⟩ : ∃ cur1, Aside0 (Own .u32 26 gX cur1 (n + j) capX ((ws ++ List.replicate j 402653184).set k (word 20 0 0 0 ((place : Int) - (k : Int) - 1)))) ∧ Hp w W3_ [(gX, cur1, 26), (gs, s.c, 32)] := ⟨_, ⟨own_set hoX.out hkl⟩, H_⟩
        clear H H_ hHeld hs1 hs2 ht1 ht2 hx1
        have H := H1
        clear H1
        have fit_ : Aside0 (Nat.ble (place + 1) cur1.size = true) := ⟨Nat.ble_eq_true_of_le (by have := ho1.out.size; have := ho1.out.le; omega)⟩
        have hlw : Aside0 ((ws ++ List.replicate j 402653184).length = n + j) := ⟨by rw [← hoX.out.len]⟩
        have hcl := calls_law t (ws ++ List.replicate j 402653184) k place (by rw [← h.out.at_]; exact hk.out.1) he.out hk.out.2 hp.out (fun e => hpe.out e.symm) (by rw [hlw.out]; exact hkl) (by rw [hlw.out]; exact hpl) _ rfl
        have hT := Aside0.mk hcl.1
        have hV := Aside0.mk hcl.2
        clear hcl
        have hU : Aside0 (∀ x ∈ (((ws ++ List.replicate j 402653184).set k (word 20 0 0 0 ((place : Int) - (k : Int) - 1))).set place 352321536), U32 x) := ⟨by
          intro x hx
          rcases List.mem_or_eq_of_mem_set hx with hx | rfl
          · rcases List.mem_or_eq_of_mem_set hx with hx | rfl
            · rcases List.mem_append.1 hx with hx | hx
              · exact hws.out x hx
              · rw [(List.mem_replicate.1 hx).2]; unfold U32; omega
            · exact ⟨(word_range hrt.out).1, (word_range hrt.out).2.1⟩
          · unfold U32; omega⟩
        go_wp2_with (first | ((with_reducible refine gate_guardG ?_); refine hp_guardLG rfl rfl ?_; (with_reducible first | refine go_tt ?_ | refine go_ff ?_ | refine go_tf ?_ | refine go_ft ?_); (try simp only [Act.put, List.setIfInBounds_toArray, List.set_cons_zero, List.set_cons_succ])) | ((with_reducible refine gate_dst (N := 9) rfl ?_); refine hp_alloc H rfl rfl (fun w_ => by go_simp; rfl) ?_; intro gT W_ H_; clear H; have H := H_; clear H_) | ((with_reducible refine gate_dst (N := 10) rfl ?_); refine hp_alloc H rfl rfl (fun w_ => by go_simp; rfl) ?_; intro gU W_ H_; clear H; have H := H_; clear H_) | ((with_reducible refine gate_dst (N := 72) rfl ?_); ((with_reducible refine gate_fnG ?_); refine hp_goesG H rfl (f := 13) rfl Try.func13 (by kernel_rfl) rfl (step_c s t (some ⟨gX, 0, none⟩) (n + j) capX (((ws ++ List.replicate j 402653184).set k (word 20 0 0 0 ((place : Int) - (k : Int) - 1))).set place 352321536) _ (h.out.below H.below) (H.rdsO (g := gX) (cur := (putSeg cur1 place (Value.int .u32 352321536).cells.toList)) (e := 26) (by repeat (first | exact .head _ | refine .tail _ ?_)) (own_set ho1.out hpl)) hU.out (by have := hb.out; have := h.out.byt.1; omega) (by have := hb.out; have := h.out.back.1; omega) hu.out) (by (try simp only [List.map_toArray, List.map_cons, List.map_nil]); first | done | rfl) ?_; rintro e_ W_ ⟨s2, rfl, hr2, hb_⟩; refine ⟨_, rfl, hb_, fun H_ => ?_⟩; replace hr2 := Aside0.mk hr2; have hgs := Aside0.mk (blk_lt (H.heap (g := gs) (cs := s.c) (t := 32) (by repeat (first | exact .head _ | refine .tail _ ?_)))); have fS := Aside0.mk (H_.heap (g := gs) (cs := s.c) (t := 32) (by repeat (first | exact .head _ | refine .tail _ ?_))); have fL := Aside0.mk (H_.heap (g := gX) (cs := (putSeg cur1 place (Value.int .u32 352321536).cells.toList)) (t := 26) (by repeat (first | exact .head _ | refine .tail _ ?_))); have hwa := Aside0.mk H.below; have hgsb := Aside0.mk (blk_lt fS.out); have hw1 := Aside0.mk H_.below; clear H H_; rename World => Wb; have H := Hp.nil Wb; (try simp only [Act.put, List.setIfInBounds_toArray, List.set_cons_zero, List.set_cons_succ]))) | ((with_reducible refine gate_loadG ?_); (first | (refine hp_wholeG H rfl (ty := 32) rfl rfl (by repeat (first | exact .head _ | refine .tail _ ?_)) (by kernel_rfl) (by kernel_rfl) ?_)); (try simp only [Act.put, List.setIfInBounds_toArray, List.set_cons_zero, List.set_cons_succ])) | ((with_reducible refine gate_storeG ?_); ((first | (refine hp_store0G H rfl rfl rfl rfl rfl (by kernel_rfl) (by first | rfl | exact fit_.out) (by rfl) (by first | exact sv_all _ rfl | exact rfl) ?_) | (refine hp_store1G H rfl rfl rfl rfl rfl (by kernel_rfl) (by first | rfl | exact fit_.out) (by rfl) (by first | exact sv_all _ rfl | exact rfl) ?_)); intro W_ H_; clear H; have H := H_; clear H_); (try simp only [Act.put, List.setIfInBounds_toArray, List.set_cons_zero, List.set_cons_succ])) | ((with_reducible refine gate_dst (N := 75) rfl ?_); ((with_reducible refine gate_fnG ?_); refine hp_goesG H rfl (f := 13) rfl Try.func13 (by kernel_rfl) rfl (step_c s2 (t.step (((ws ++ List.replicate j 402653184).set k (word 20 0 0 0 ((place : Int) - (k : Int) - 1))).set place 352321536)) (some ⟨gX, 0, none⟩) (n + j) capX (((ws ++ List.replicate j 402653184).set k (word 20 0 0 0 ((place : Int) - (k : Int) - 1))).set place 352321536) _ (hr2.out _ (fun b _ h2 => H.below.block b h2) (h.out.below (below_step hw1.out H.below))) (Hp.rdsOF ((H.below.block _ (blk_lt fL.out)).trans fL.out) (own_set ho1.out hpl)) hU.out (by rw [hT.out]; have := hb.out; have := h.out.byt.1; show t.byt.length ≤ _; omega) (by rw [hT.out]; have := hb.out; have := h.out.back.1; show (t.back ++ [t.at_ + 1]).length ≤ _; rw [List.length_append]; show t.back.length + 1 ≤ _; omega) (by rw [hT.out]; exact hu.out)) (by (try simp only [List.map_toArray, List.map_cons, List.map_nil]); first | done | rfl) ?_; rintro e_ W_ ⟨s3, rfl, hr3, hb_⟩; refine ⟨_, rfl, hb_, fun H_ => ?_⟩; replace hr3 := Aside0.mk hr3; have h23 := Aside0.mk H_.below; have h2a := Aside0.mk H.below; have hgT := Aside0.mk (H.blk (gT, s2.c, 32) (by repeat (first | exact .head _ | refine .tail _ ?_))).1; have fT := Aside0.mk (H_.heap (g := gT) (cs := s2.c) (t := 32) (by repeat (first | exact .head _ | refine .tail _ ?_))); replace fS := Aside0.mk ((H_.below.block _ (blk_lt fS.out)).trans fS.out); have hw2 := Aside0.mk (below_step hw1.out H_.below); clear H H_; rename World => Wc; have H := Hp.nil Wc; (try simp only [Act.put, List.setIfInBounds_toArray, List.set_cons_zero, List.set_cons_succ]))) | ((with_reducible refine gate_dst (N := 77) rfl ?_); ((with_reducible refine gate_loadG ?_); refine hp_loadXG rfl rfl rfl ((H.below.block _ (blk_lt fS.out)).trans fS.out) (by kernel_rfl) (by exact qa.out) ?_; (try simp only [Act.put, List.setIfInBounds_toArray, List.set_cons_zero, List.set_cons_succ]))) | ((with_reducible refine gate_storeG ?_); refine hp_storeXG rfl rfl rfl rfl ((H.below.block _ (blk_lt fS.out)).trans fS.out) rfl (by kernel_rfl) (by rfl) (by rfl) (sv_at s _) ?_; intro W9_ hW9_; refine halt (fun P_ hP_ => ?_)))
        subst hW9_
        have hbW := H.below
        have hgU := (H.blk (gU, s3.c, 32) (.head _)).1
        have hUh := H.heap (g := gU) (cs := s3.c) (t := 32) (.head _)
        have hsW := (hbW.block gs (blk_lt fS.out)).trans fS.out
        have hgsc := blk_lt fS.out
        have z1 := h2a.out.size
        have z2 := h23.out.size
        have k1 := Aside0.mk (setRow_heap W_ gs s.c (SV.c { s with at_ := wrap64 ((k : Int) + 1) }) 32 (0, 0) hsW)
        have k2 : ∀ b, b ≠ gs → (W_.setRow gs (SV.c { s with at_ := wrap64 ((k : Int) + 1) })).heap[b]? = W_.heap[b]? := fun b hb => setRow_other _ _ _ _ hb
        have hwW := below_step hw2.out hbW
        have kB : Below w.heap.size w (W_.setRow gs (SV.c { s with at_ := wrap64 ((k : Int) + 1) })) := ⟨hwW.os, hwW.tape, hwW.output, by simp; exact hwW.size, fun q hq => (k2 q (by have := hg0.out; omega)).trans (hwW.block q hq)⟩
        have fT9 := Aside0.mk ((k2 gT (by have := hgT.out; have := hgsb.out; omega)).trans ((hbW.block gT (blk_lt fT.out)).trans fT.out))
        have fU9 := Aside0.mk ((k2 gU (by omega)).trans hUh)
        have r2 := hr2.out (W_.setRow gs (SV.c { s with at_ := wrap64 ((k : Int) + 1) })) (fun b h1 h2 => (k2 b (by have := hgs.out; omega)).trans ((hbW.block b (by omega)).trans (h23.out.block b h2))) (h.out.below kB)
        have r3 := hr3.out (W_.setRow gs (SV.c { s with at_ := wrap64 ((k : Int) + 1) })) (fun b h1 h2 => (k2 b (by have := hgsb.out; omega)).trans (hbW.block b h2)) r2
        rw [hV.out] at r3
        rw [hT.out] at r2
        have ew : wrap64 ((k : Int) + 1) = t.at_ + 1 := by rw [← h.out.at_, hk.out.1]; have := hk.out.2; unfold wrap64; omega
        have hs9 := h.out.below kB
        have r4 : Aside0 (Rd (W_.setRow gs (SV.c { s with at_ := wrap64 ((k : Int) + 1) })) { s with at_ := wrap64 ((k : Int) + 1) } { t with at_ := t.at_ + 1 }) := ⟨⟨ew, hs9.R, hs9.n16, hs9.back, hs9.wr, hs9.byt, hs9.inp, hs9.out, hs9.en, hs9.code, hs9.flt⟩⟩
        have q2 : Aside0 (s2.c[0]? = some (.int .i64 (place : Int))) := ⟨by rw [g_at, r2.at_]⟩
        replace r3 := Aside0.mk r3
        clear H hs9 r2 ew hwW k2 z1 z2 hgsc hsW hUh hgU hbW hr2 hr3
        replace kB := Aside0.mk kB
        have H := Hp.nil (W_.setRow gs (SV.c { s with at_ := wrap64 ((k : Int) + 1) }))
        refine Eq.mpr hP_.out ?_
        clear hP_
        go_wp2_with (first | ((with_reducible refine gate_guardG ?_); refine hp_guardLG rfl rfl ?_; (with_reducible first | refine go_tt ?_ | refine go_ff ?_ | refine go_tf ?_ | refine go_ft ?_); (try simp only [Act.put, List.setIfInBounds_toArray, List.set_cons_zero, List.set_cons_succ])) | ((with_reducible refine gate_dst (N := 81) rfl ?_); ((with_reducible refine gate_loadG ?_); refine hp_loadXG rfl rfl rfl ((H.below.block _ (blk_lt fT9.out)).trans fT9.out) (by kernel_rfl) (by exact q2.out) ?_; (try simp only [Act.put, List.setIfInBounds_toArray, List.set_cons_zero, List.set_cons_succ]))) | ((with_reducible refine gate_dst (N := 85) rfl ?_); ((with_reducible refine gate_loadG ?_); refine hp_wholeXG (ty := 32) rfl rfl rfl ((H.below.block _ (blk_lt fU9.out)).trans fU9.out) (by kernel_rfl) (by kernel_rfl) ?_; (try simp only [Act.put, List.setIfInBounds_toArray, List.set_cons_zero, List.set_cons_succ]))) | ((with_reducible refine gate_dst (N := 86) rfl ?_); ((with_reducible refine gate_loadG ?_); refine hp_wholeXG (ty := 32) rfl rfl rfl ((H.below.block _ (blk_lt k1.out)).trans k1.out) (by kernel_rfl) (by kernel_rfl) ?_; (try simp only [Act.put, List.setIfInBounds_toArray, List.set_cons_zero, List.set_cons_succ]))) | ((with_reducible refine gate_fnG ?_); (refine hp_goesG H rfl (f := 10) rfl Try.func10 (by kernel_rfl) rfl (rsame6_c s3 { s with at_ := wrap64 ((k : Int) + 1) } { t with at_ := t.at_ + 1 } { t with at_ := t.at_ + 1 } _ ⟨r3.out.below H.below⟩ ⟨r4.out.below H.below⟩ (sameF_refl _)) (by (try simp only [List.map_toArray, List.map_cons, List.map_nil]); first | done | rfl) ?_; rintro e_ W_ ⟨rfl, hb_⟩; refine ⟨_, rfl, hb_, fun H_ => ?_⟩; clear H; have H := H_; clear H_); (try simp only [Act.put, List.setIfInBounds_toArray, List.set_cons_zero, List.set_cons_succ])))
        go_ret
        exact ⟨rfl, below_step kB.out H.below⟩
theorem calls_c (A : Option Addr) (n c : Nat) (ws : List Int) (s : SV) (t : St) (u : Int) (w : World) (h : Rd w s t) (hl : RdS .u32 w A n c ws) (hws : ∀ x ∈ ws, U32 x) (hu : ∀ x ∈ t.inp, 0 ≤ x ∧ x ≤ 255) (hu8 : 0 ≤ u ∧ u ≤ 255) :
    Calls Try.prog 5 #[.slice A n c, .agg s.c, .int .u8 u] w fun e w' => e = .returned (.bool true) ∧ Below w.heap.size w w' := by
  by_cases hq : fewF t = true ∧ n ≤ 300 ∧ s.at_ ≤ 200 ∧ t.en = false
  · obtain ⟨hf, h3, ha, he⟩ := hq
    have hr := (few_b h hf).1
    have h0 : 0 ≤ s.at_ := by rw [h.at_]; unfold rightF okP at hr; simp at hr; exact hr.2.1.1
    obtain ⟨k, hk⟩ : ∃ k : Nat, s.at_ = (k : Int) := ⟨s.at_.toNat, by omega⟩
    obtain ⟨p, rfl⟩ : ∃ p : Nat, u = (p : Int) := ⟨u.toNat, by omega⟩
    exact calls_main A n c ws s t k p w ⟨h⟩ ⟨hl⟩ ⟨hws⟩ ⟨hu⟩ ⟨hf⟩ (by simp; omega) (by simp; omega) ⟨hk, by omega⟩ ⟨he⟩ ⟨by omega⟩
  · refine calls_turned A n c s t u w ⟨h⟩ (fewF t) (decide (300 < n)) (decide (s.at_ > 200)) t.en ⟨rfl⟩ (decide_eq_decide.2 (by omega)) rfl rfl ⟨by rw [g_en, h.en]⟩ ?_
    cases hf : fewF t
    · rfl
    cases he : t.en
    · simp only [Bool.not_true, Bool.false_or, Bool.or_false, Bool.or_eq_true, decide_eq_true_eq]
      by_cases h1 : n ≤ 300
      · by_cases h2 : s.at_ ≤ 200
        · exact absurd ⟨hf, h1, h2, he⟩ hq
        · right; omega
      · left; omega
    · simp
end Go.Proofs.Ytgaggfekgkedpaa.Cpu
end
section
/- The row of the law CpuCalls: whatever its arguments, the call returns true, and each argument reads behind it as it read before. No conditions. A template, printed by gen_row06.py. -/
namespace Go.Proofs.Ytgaggfekgkedpaa.cpuCalls
open Go.ChangeShapes Go.WideShapes Go.ChangeAt Go.RowKit Go.Proofs.Ytgaggfekgkedpaa.Q Go.Proofs.Ytgaggfekgkedpaa.Cpu Go.Proofs.Ytgaggfekgkedpaa.Hp Go.Proofs.YtgaggfekgkedpaaW.PrintWords
open Go.ChangeMaps (open_string shut_string)
set_option linter.unusedVariables false
theorem own : ownKnob Try.prog.godebug = none := by kernel_rfl
theorem laidOut : laidOutB Try.prog = true := by kernel_rfl
set_option maxRecDepth 100000 in
set_option maxHeartbeats 4000000 in
theorem lifted (os : Os) (started : os.Started) (H : Type) (enc : TypeId × Value → H) :
    ReturnsInHanded {} Try.checked os 5 .any (Rows.cpuCallsSpec.pre6 enc Try.prog Try.f5 Rows.cpuCallsRow.domain false) (Rows.cpuCallsSpec.post enc Try.prog Try.f5 false true false false) := by
  refine returnsInHanded_of_change_sized (C := Try.checked) own started (by kernel_rfl) Try.func5
    (ChangeSpec.witness6 (enc := enc) (C := Try.checked) false ⟨#[], #[(.slice none 0 0), (.agg #[.int .i64 0, .int .u32 0, .int .u32 0, .int .u32 0, .int .u32 0, .int .u32 0, .int .u32 0, .int .u32 0, .int .u32 0, .int .u32 0, .int .u32 0, .int .u32 0, .int .u32 0, .int .u32 0, .int .u32 0, .int .u32 0, .int .u32 0, .slice none 0 0, .int .i64 0, .slice none 0 0, .slice none 0 0, .slice none 0 0, .bool false, .int .u32 0, .int .i64 0]), (.int .u8 0)], []⟩ 8 (by kernel_rfl) (by kernel_rfl) (by kernel_rfl) (by kernel_rfl)) ?_
  intro W base args ds gs before hval0 hW hcnd hsz0 _
  have hsz : (DataW.weightsEach Try.prog (Try.f5.params.toList ++ Rows.cpuCallsSpec.plain.varTypes Try.prog) (ds ++ gs)).all (· ≤ reachBytes) = true := hsz0
  have hval : ∀ (j : Nat) t v, Try.f5.params[j]? = some t → args[j]? = some v → Value.okWide Try.prog W .any base t v := hval0
  have hW' := hW
  obtain ⟨p, q, hA0, hV, rfl, hfz, hnd⟩ := hW
  have hA : DataW.TrodAll enc Try.prog W 0 (fun _ => true) true Try.f5.params.toList args.toList ds p := hA0
  rw [Try.params5] at hA hval hsz
  obtain ⟨v0, vs0, d0, ds0, p0, q0, hargs, rfl, rfl, h0, r0⟩ := trodAll_cons hA
  obtain ⟨v1, vs1, d1, ds1, p1, q1, rfl, rfl, rfl, h1, r1⟩ := trodAll_cons r0
  obtain ⟨v2, vs2, d2, ds2, p2, q2, rfl, rfl, rfl, h2, r2⟩ := trodAll_cons r1
  obtain ⟨rfl, rfl, rfl⟩ := trodAll_nil r2
  obtain rfl : args = #[v0, v1, v2] := by cases args; simp_all
  obtain ⟨rfl, rfl⟩ := trodVars_none hV
  have k0 := h0
  have lt0 : ∀ x ∈ p0, x.block < W.heap.size := by obtain ⟨m, hm⟩ := k0; exact DataW.trod_lt m _ _ _ hm
  obtain ⟨a0, len0, cap0, rfl⟩ := okWide_slice Try.underlying22 (hval 0 22 v0 rfl rfl)
  obtain ⟨A0, n0, c0, l0, e0, hr0, wf0, hb0⟩ := rds_trod (B := 4) Try.underlying22 Try.underlying26 (by kernel_rfl) (by kernel_rfl) hsz (j := 0) (t := 22) rfl rfl h0
  simp only [Value.cells, List.cons.injEq, and_true, Value.slice.injEq] at e0
  obtain ⟨rfl, rfl, rfl⟩ := e0
  have k1 := h1
  have lt1 : ∀ x ∈ p1, x.block < W.heap.size := by obtain ⟨m, hm⟩ := k1; exact DataW.trod_lt m _ _ _ hm
  obtain ⟨cs1, rfl, sz1⟩ := okWide_struct Try.underlying32 (hval 1 32 v1 rfl rfl)
  obtain ⟨s1, t1, e1, hr1, wf1⟩ := st_trod hsz (j := 1) rfl rfl h1
  obtain rfl : cs1 = s1.c := by apply Array.ext'; exact e1
  obtain ⟨u2, rfl, rfl, rfl, wf2⟩ := open_int Try.underlying5 (hval 2 5 v2 rfl rfl) h2
  clear hA0 hval0 hsz0 hsz
  refine (calls_c _ _ _ l0 s1 t1 u2 W hr1 hr0 (fun x hx => wf_u32 (wf0 x hx)) (fun x hx => wf1.inp x hx) (wf_u8 wf2)).mono ?_
  rintro e W' ⟨rfl, bel⟩
  exact ⟨_, rfl, _, _, _, [], _, [], hW', trodAll_mk1 (shut_bool Try.underlying4 _), (trodAll_cons_mk (Below.trod laidOut (by kernel_rfl) (of_decide_eq_true (by kernel_rfl)) k0 bel lt0) (trodAll_cons_mk (Below.trod laidOut (by kernel_rfl) (of_decide_eq_true (by kernel_rfl)) k1 bel lt1) (trodAll_cons_mk (shut_int Try.underlying5 wf2) trodAll_mk0))), rfl, bel.frame _, fun h => by cases h⟩
theorem over : Rows.cpuCallsRow.holds Try.pinned (OpenSpec.ofChange Rows.cpuCallsSpec) :=
  OpenClaim.holds_of_wide 5 Try.f5 rfl rfl rfl rfl rfl rfl rfl ⟨rfl, rfl, rfl, rfl, rfl⟩ rfl rfl rfl rfl rfl (by kernel_rfl) Try.func5 (by kernel_rfl)
    (of_decide_eq_true (by kernel_rfl)) (by unfold Func.isWrapper; first | (rw [if_pos (by decide +kernel)]; kernel_rfl) | (rw [if_neg (by decide +kernel)]; exact ⟨rfl, rfl⟩))
    (fun os started H enc _ => lifted os started H enc)
theorem proved : Rows.CpuCallsSaid := over
#print axioms proved
end Go.Proofs.Ytgaggfekgkedpaa.cpuCalls
namespace Go.Proofs.Ytgaggfekgkedpaa
theorem cpuCalls_holds : Rows.CpuCallsSaid := cpuCalls.proved
end Go.Proofs.Ytgaggfekgkedpaa
end