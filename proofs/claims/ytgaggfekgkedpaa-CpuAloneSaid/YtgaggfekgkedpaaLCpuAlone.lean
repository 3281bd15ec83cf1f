/- Several texts in one. Own work; written by merge.py. -/
import Derived.Test.YtgaggfekgkedpaaQD0
import Derived.Test.YtgaggfekgkedpaaQB
import Derived.Test.YtgaggfekgkedpaaCode
import Derived.Test.YtgaggfekgkedpaaHrgd
import Derived.Test.YtgaggfekgkedpaaMxG
import Derived.Test.YtgaggfekgkedpaaMxF
import Derived.Test.YtgaggfekgkedpaaRows
import Derived.WalkKit
import Derived.ProofKit
import Derived.OpenShut
import Derived.ShutString
import Derived.ChangeOld
import Derived.Below
import Derived.SizedLaws
section
-- Written by drv.py, a program of this session, over the kit's print, out of the translation. Not trusted: Lean checks it.
namespace Go.Proofs.Ytgaggfekgkedpaa.Q
open Go.RowKit Go.Proofs.YtgaggfekgkedpaaW.PrintWords Go.Proofs.YtgaggfekgkedpaaW.PrintLast Go.Proofs.YtgaggfekgkedpaaW.PrintMore
attribute [local go_sem] max2_int min2_int max_two min_two max_three min_three max_four min_four   -- for this text's walks alone
set_option linter.unusedVariables false
set_option linter.unusedSimpArgs false

set_option maxHeartbeats 8000000 in
set_option maxRecDepth 100000 in
theorem spliceref02_Right.calls (a0_0 : Int) (a0_1 : Int) (a0_2 : Int) (a0_3 : Int) (a0_4 : Int) (r : Bool) (w : World) (h : spliceref02_Right.f a0_0 a0_1 a0_2 a0_3 a0_4 = some r) :
    Calls Try.prog 37 #[.agg #[.int .i64 a0_0, .int .i64 a0_1, .int .i64 a0_2, .int .i64 a0_3, .int .i64 a0_4]] w fun e w' => e = .returned (.bool r) ∧ Below w.heap.size w w' := by
 have hu40 := Try.underlying40
 have HB := Aside0.mk (Below.refl w.heap.size w)
 have H : ((spliceref02_three.f a0_0).bind fun t295 => (if t295 = true then ((spliceref02_reg.f a0_1).bind fun t296 => (if t296 = true then ((spliceref02_reg.f a0_2).bind fun t297 => (if t297 = true then ((spliceref02_reg.f a0_3).bind fun t298 => (if t298 = true then (some (a0_4 == 0)) else (some false))) else (some false))) else (some false))) else (if a0_3 = 0 then ((spliceref02_near.f a0_0).bind fun t299 => (if t299 = true then ((spliceref02_reg.f a0_1).bind fun t300 => (if t300 = true then ((spliceref02_reg.f a0_2).bind fun t301 => (if t301 = true then (if a0_4 ≥ (-32768) then (some (decide (a0_4 ≤ 32767))) else (some false)) else (some false))) else (some false))) else (if a0_0 = 10 then ((spliceref02_reg.f a0_1).bind fun t302 => (if t302 = true then ((spliceref02_reg.f a0_2).bind fun t303 => (if t303 = true then (if a0_4 ≥ 0 then (some (decide (a0_4 ≤ 65535))) else (some false)) else (some false))) else (some false))) else ((spliceref02_branch.f a0_0).bind fun t304 => (if t304 = true then ((spliceref02_reg.f a0_1).bind fun t305 => (if t305 = true then ((spliceref02_reg.f a0_2).bind fun t306 => (if t306 = true then (if a0_4 ≥ (-128) then (some (decide (a0_4 ≤ 127))) else (some false)) else (some false))) else (some false))) else (if a0_2 = 0 then (if a0_0 = 9 then ((spliceref02_reg.f a0_1).bind fun t307 => (if t307 = true then (if a0_4 ≥ 0 then (some (decide (a0_4 ≤ 65535))) else (some false)) else (some false))) else ((spliceref02_one.f a0_0).bind fun t308 => (if t308 = true then ((spliceref02_reg.f a0_1).bind fun t309 => (if t309 = true then (some (a0_4 == 0)) else (some false))) else ((spliceref02_far.f a0_0).bind fun t310 => (if t310 = true then (if a0_1 = 0 then (if a0_4 ≥ (-8388608) then (some (decide (a0_4 ≤ 8388607))) else (some false)) else (some false)) else (if a0_0 = 21 then (if a0_1 = 0 then (some (a0_4 == 0)) else (some false)) else (if a0_0 = 24 then (if a0_1 = 0 then (some (a0_4 == 0)) else (some false)) else (if a0_0 = 25 then (if a0_1 = 0 then (some (a0_4 == 0)) else (some false)) else (some false))))))))) else (some false))))))) else (some false)))) = some r := h
 clear h
 replace H := Option.bind_eq_some_iff.mp H
 obtain ⟨t295, A20, H⟩ := H
 replace H : (if t295 = true then ((spliceref02_reg.f a0_1).bind fun t296 => (if t296 = true then ((spliceref02_reg.f a0_2).bind fun t297 => (if t297 = true then ((spliceref02_reg.f a0_3).bind fun t298 => (if t298 = true then (some (a0_4 == 0)) else (some false))) else (some false))) else (some false))) else (if a0_3 = 0 then ((spliceref02_near.f a0_0).bind fun t299 => (if t299 = true then ((spliceref02_reg.f a0_1).bind fun t300 => (if t300 = true then ((spliceref02_reg.f a0_2).bind fun t301 => (if t301 = true then (if a0_4 ≥ (-32768) then (some (decide (a0_4 ≤ 32767))) else (some false)) else (some false))) else (some false))) else (if a0_0 = 10 then ((spliceref02_reg.f a0_1).bind fun t302 => (if t302 = true then ((spliceref02_reg.f a0_2).bind fun t303 => (if t303 = true then (if a0_4 ≥ 0 then (some (decide (a0_4 ≤ 65535))) else (some false)) else (some false))) else (some false))) else ((spliceref02_branch.f a0_0).bind fun t304 => (if t304 = true then ((spliceref02_reg.f a0_1).bind fun t305 => (if t305 = true then ((spliceref02_reg.f a0_2).bind fun t306 => (if t306 = true then (if a0_4 ≥ (-128) then (some (decide (a0_4 ≤ 127))) else (some false)) else (some false))) else (some false))) else (if a0_2 = 0 then (if a0_0 = 9 then ((spliceref02_reg.f a0_1).bind fun t307 => (if t307 = true then (if a0_4 ≥ 0 then (some (decide (a0_4 ≤ 65535))) else (some false)) else (some false))) else ((spliceref02_one.f a0_0).bind fun t308 => (if t308 = true then ((spliceref02_reg.f a0_1).bind fun t309 => (if t309 = true then (some (a0_4 == 0)) else (some false))) else ((spliceref02_far.f a0_0).bind fun t310 => (if t310 = true then (if a0_1 = 0 then (if a0_4 ≥ (-8388608) then (some (decide (a0_4 ≤ 8388607))) else (some false)) else (some false)) else (if a0_0 = 21 then (if a0_1 = 0 then (some (a0_4 == 0)) else (some false)) else (if a0_0 = 24 then (if a0_1 = 0 then (some (a0_4 == 0)) else (some false)) else (if a0_0 = 25 then (if a0_1 = 0 then (some (a0_4 == 0)) else (some false)) else (some false))))))))) else (some false))))))) else (some false))) = some r := H
 have A2 := Aside0.mk A20
 clear A20
 by_cases c3 : t295 = true
 ·
  subst c3
  have H1 : ((spliceref02_reg.f a0_1).bind fun t296 => (if t296 = true then ((spliceref02_reg.f a0_2).bind fun t297 => (if t297 = true then ((spliceref02_reg.f a0_3).bind fun t298 => (if t298 = true then (some (a0_4 == 0)) else (some false))) else (some false))) else (some false))) = some r := by rw [if_pos rfl] at H; exact H
  clear H
  have H := H1
  clear H1
  replace H := Option.bind_eq_some_iff.mp H
  obtain ⟨t296, A40, H⟩ := H
  replace H : (if t296 = true then ((spliceref02_reg.f a0_2).bind fun t297 => (if t297 = true then ((spliceref02_reg.f a0_3).bind fun t298 => (if t298 = true then (some (a0_4 == 0)) else (some false))) else (some false))) else (some false)) = some r := H
  have A4 := Aside0.mk A40
  clear A40
  by_cases c5 : t296 = true
  ·
   subst c5
   have H1 : ((spliceref02_reg.f a0_2).bind fun t297 => (if t297 = true then ((spliceref02_reg.f a0_3).bind fun t298 => (if t298 = true then (some (a0_4 == 0)) else (some false))) else (some false))) = some r := by rw [if_pos rfl] at H; exact H
   clear H
   have H := H1
   clear H1
   replace H := Option.bind_eq_some_iff.mp H
   obtain ⟨t297, A60, H⟩ := H
   replace H : (if t297 = true then ((spliceref02_reg.f a0_3).bind fun t298 => (if t298 = true then (some (a0_4 == 0)) else (some false))) else (some false)) = some r := H
   have A6 := Aside0.mk A60
   clear A60
   by_cases c7 : t297 = true
   ·
    subst c7
    have H1 : ((spliceref02_reg.f a0_3).bind fun t298 => (if t298 = true then (some (a0_4 == 0)) else (some false))) = some r := by rw [if_pos rfl] at H; exact H
    clear H
    have H := H1
    clear H1
    replace H := Option.bind_eq_some_iff.mp H
    obtain ⟨t298, A80, H⟩ := H
    replace H : (if t298 = true then (some (a0_4 == 0)) else (some false)) = some r := H
    have A8 := Aside0.mk A80
    clear A80
    by_cases c9 : t298 = true
    ·
     subst c9
     have H1 : (some (a0_4 == 0)) = some r := by rw [if_pos rfl] at H; exact H
     clear H
     have H := H1
     clear H1
     obtain rfl := Option.some.inj H
     go_enter Try.func37, Try.ntmps37
     go_wp2_with (first | ((with_reducible refine gate_dst (N := 1) rfl ?_); refine box_event ?hg (N := 1) ?hd (cs := #[.int .i64 a0_0, .int .i64 a0_1, .int .i64 a0_2, .int .i64 a0_3, .int .i64 a0_4]) (t := 40) ?hr ?_; (case hd => rfl); (case hg => rfl); (case hr => first | (go_simp; done) | (go_simp; rfl)); intro gb294 hg w10 hbox hb; have n0_ := Aside0.mk (below_step (by repeat (first | (with_reducible first | exact HB.out | apply below_alloc | apply pw_below_drewN | apply below_drew1) | exact HB.out)) hb); have n1_ := Aside0.mk (hbox); have n2_ := Aside0.mk ((by rw [hg]; exact (below_size (by repeat (first | (with_reducible first | exact HB.out | apply below_alloc | apply pw_below_drewN | apply below_drew1) | exact HB.out))) : w.heap.size ≤ gb294)); have n3_ := Aside0.mk ((by rw [hg]; exact (below_size (by repeat (first | (with_reducible first | exact HB.out | apply below_alloc | apply pw_below_drewN | apply below_drew1) | exact HB.out))) : w.heap.size ≤ gb294)); clear HB; have HB := n0_; have BK294 := n1_; have GW294 := n2_; have GE294 := n3_; clear n0_ n1_ n2_ n3_; clear hb hbox hg; have hcz11_0 : w10.cell? ⟨gb294, 0, none⟩ = some (.int .i64 a0_0) := (blk_cell BK294.out 0).trans rfl; have hcz11_1 : w10.cell? ⟨gb294, 1, none⟩ = some (.int .i64 a0_1) := (blk_cell BK294.out 1).trans rfl; have hcz11_2 : w10.cell? ⟨gb294, 2, none⟩ = some (.int .i64 a0_2) := (blk_cell BK294.out 2).trans rfl; have hcz11_3 : w10.cell? ⟨gb294, 3, none⟩ = some (.int .i64 a0_3) := (blk_cell BK294.out 3).trans rfl; have hcz11_4 : w10.cell? ⟨gb294, 4, none⟩ = some (.int .i64 a0_4) := (blk_cell BK294.out 4).trans rfl; have hfz11_0 := blk_frozen BK294.out 0; have hfz11_1 := blk_frozen BK294.out 1; have hfz11_2 := blk_frozen BK294.out 2; have hfz11_3 := blk_frozen BK294.out 3; have hfz11_4 := blk_frozen BK294.out 4) | ((with_reducible refine gate_callee (f := 34) rfl ?_); refine goesL_ (some 5) rfl rfl Try.func34 (by kernel_rfl) rfl #[.int .i64 a0_0] rfl (by (try simp only [List.map_toArray, List.map_cons, List.map_nil]); first | done | rfl | (simp only [List.length_drop, List.length_take]; rfl)) ?_; (with_reducible refine (spliceref02_three.calls a0_0 true _ A2.out).mono ?_); rintro e w' ⟨rfl, ⟨nd, rfl⟩⟩; refine ⟨_, rfl, ?_⟩) | ((with_reducible refine gate_callee (f := 51) rfl ?_); refine goesL_ (some 8) rfl rfl Try.func51 (by kernel_rfl) rfl #[.int .i64 a0_1] rfl (by (try simp only [List.map_toArray, List.map_cons, List.map_nil]); first | done | rfl | (simp only [List.length_drop, List.length_take]; rfl)) ?_; (with_reducible refine (spliceref02_reg.calls a0_1 true _ A4.out).mono ?_); rintro e w' ⟨rfl, ⟨nd, rfl⟩⟩; refine ⟨_, rfl, ?_⟩) | (go_at_call 51; (with_reducible refine (spliceref02_reg.calls a0_2 true _ A6.out).mono ?_); rintro e w' ⟨rfl, ⟨nd, rfl⟩⟩) | (go_at_call 51; (with_reducible refine (spliceref02_reg.calls a0_3 true _ A8.out).mono ?_); rintro e w' ⟨rfl, ⟨nd, rfl⟩⟩))
     go_ret
     exact ⟨by first | rfl | (simp [errW_none, errW_some] <;> rfl) | (simp [*, errW_none, errW_some] <;> rfl), by repeat (first | (with_reducible first | exact HB.out | apply below_alloc | apply pw_below_drewN | apply below_drew1 | refine below_set ?_ GE294.out) | exact HB.out)⟩
    ·
     replace c9 := Bool.eq_false_iff.mpr c9
     subst c9
     have H1 : (some false) = some r := by rw [if_neg (show ¬ (false = true) by decide)] at H; exact H
     clear H
     have H := H1
     clear H1
     obtain rfl := Option.some.inj H
     go_enter Try.func37, Try.ntmps37
     go_wp2_with (first | ((with_reducible refine gate_dst (N := 1) rfl ?_); refine box_event ?hg (N := 1) ?hd (cs := #[.int .i64 a0_0, .int .i64 a0_1, .int .i64 a0_2, .int .i64 a0_3, .int .i64 a0_4]) (t := 40) ?hr ?_; (case hd => rfl); (case hg => rfl); (case hr => first | (go_simp; done) | (go_simp; rfl)); intro gb294 hg w12 hbox hb; have n0_ := Aside0.mk (below_step (by repeat (first | (with_reducible first | exact HB.out | apply below_alloc | apply pw_below_drewN | apply below_drew1) | exact HB.out)) hb); have n1_ := Aside0.mk (hbox); have n2_ := Aside0.mk ((by rw [hg]; exact (below_size (by repeat (first | (with_reducible first | exact HB.out | apply below_alloc | apply pw_below_drewN | apply below_drew1) | exact HB.out))) : w.heap.size ≤ gb294)); have n3_ := Aside0.mk ((by rw [hg]; exact (below_size (by repeat (first | (with_reducible first | exact HB.out | apply below_alloc | apply pw_below_drewN | apply below_drew1) | exact HB.out))) : w.heap.size ≤ gb294)); clear HB; have HB := n0_; have BK294 := n1_; have GW294 := n2_; have GE294 := n3_; clear n0_ n1_ n2_ n3_; clear hb hbox hg; have hcz13_0 : w12.cell? ⟨gb294, 0, none⟩ = some (.int .i64 a0_0) := (blk_cell BK294.out 0).trans rfl; have hcz13_1 : w12.cell? ⟨gb294, 1, none⟩ = some (.int .i64 a0_1) := (blk_cell BK294.out 1).trans rfl; have hcz13_2 : w12.cell? ⟨gb294, 2, none⟩ = some (.int .i64 a0_2) := (blk_cell BK294.out 2).trans rfl; have hcz13_3 : w12.cell? ⟨gb294, 3, none⟩ = some (.int .i64 a0_3) := (blk_cell BK294.out 3).trans rfl; have hcz13_4 : w12.cell? ⟨gb294, 4, none⟩ = some (.int .i64 a0_4) := (blk_cell BK294.out 4).trans rfl; have hfz13_0 := blk_frozen BK294.out 0; have hfz13_1 := blk_frozen BK294.out 1; have hfz13_2 := blk_frozen BK294.out 2; have hfz13_3 := blk_frozen BK294.out 3; have hfz13_4 := blk_frozen BK294.out 4) | ((with_reducible refine gate_callee (f := 34) rfl ?_); refine goesL_ (some 5) rfl rfl Try.func34 (by kernel_rfl) rfl #[.int .i64 a0_0] rfl (by (try simp only [List.map_toArray, List.map_cons, List.map_nil]); first | done | rfl | (simp only [List.length_drop, List.length_take]; rfl)) ?_; (with_reducible refine (spliceref02_three.calls a0_0 true _ A2.out).mono ?_); rintro e w' ⟨rfl, ⟨nd, rfl⟩⟩; refine ⟨_, rfl, ?_⟩) | ((with_reducible refine gate_callee (f := 51) rfl ?_); refine goesL_ (some 8) rfl rfl Try.func51 (by kernel_rfl) rfl #[.int .i64 a0_1] rfl (by (try simp only [List.map_toArray, List.map_cons, List.map_nil]); first | done | rfl | (simp only [List.length_drop, List.length_take]; rfl)) ?_; (with_reducible refine (spliceref02_reg.calls a0_1 true _ A4.out).mono ?_); rintro e w' ⟨rfl, ⟨nd, rfl⟩⟩; refine ⟨_, rfl, ?_⟩) | (go_at_call 51; (with_reducible refine (spliceref02_reg.calls a0_2 true _ A6.out).mono ?_); rintro e w' ⟨rfl, ⟨nd, rfl⟩⟩) | (go_at_call 51; (with_reducible refine (spliceref02_reg.calls a0_3 false _ A8.out).mono ?_); rintro e w' ⟨rfl, ⟨nd, rfl⟩⟩))
     go_ret
     exact ⟨by first | rfl | (simp [errW_none, errW_some] <;> rfl) | (simp [*, errW_none, errW_some] <;> rfl), by repeat (first | (with_reducible first | exact HB.out | apply below_alloc | apply pw_below_drewN | apply below_drew1 | refine below_set ?_ GE294.out) | exact HB.out)⟩
   ·
    replace c7 := Bool.eq_false_iff.mpr c7
    subst c7
    have H1 : (some false) = some r := by rw [if_neg (show ¬ (false = true) by decide)] at H; exact H
    clear H
    have H := H1
    clear H1
    obtain rfl := Option.some.inj H
    go_enter Try.func37, Try.ntmps37
    go_wp2_with (first | ((with_reducible refine gate_dst (N := 1) rfl ?_); refine box_event ?hg (N := 1) ?hd (cs := #[.int .i64 a0_0, .int .i64 a0_1, .int .i64 a0_2, .int .i64 a0_3, .int .i64 a0_4]) (t := 40) ?hr ?_; (case hd => rfl); (case hg => rfl); (case hr => first | (go_simp; done) | (go_simp; rfl)); intro gb294 hg w14 hbox hb; have n0_ := Aside0.mk (below_step (by repeat (first | (with_reducible first | exact HB.out | apply below_alloc | apply pw_below_drewN | apply below_drew1) | exact HB.out)) hb); have n1_ := Aside0.mk (hbox); have n2_ := Aside0.mk ((by rw [hg]; exact (below_size (by repeat (first | (with_reducible first | exact HB.out | apply below_alloc | apply pw_below_drewN | apply below_drew1) | exact HB.out))) : w.heap.size ≤ gb294)); have n3_ := Aside0.mk ((by rw [hg]; exact (below_size (by repeat (first | (with_reducible first | exact HB.out | apply below_alloc | apply pw_below_drewN | apply below_drew1) | exact HB.out))) : w.heap.size ≤ gb294)); clear HB; have HB := n0_; have BK294 := n1_; have GW294 := n2_; have GE294 := n3_; clear n0_ n1_ n2_ n3_; clear hb hbox hg; have hcz15_0 : w14.cell? ⟨gb294, 0, none⟩ = some (.int .i64 a0_0) := (blk_cell BK294.out 0).trans rfl; have hcz15_1 : w14.cell? ⟨gb294, 1, none⟩ = some (.int .i64 a0_1) := (blk_cell BK294.out 1).trans rfl; have hcz15_2 : w14.cell? ⟨gb294, 2, none⟩ = some (.int .i64 a0_2) := (blk_cell BK294.out 2).trans rfl; have hcz15_3 : w14.cell? ⟨gb294, 3, none⟩ = some (.int .i64 a0_3) := (blk_cell BK294.out 3).trans rfl; have hcz15_4 : w14.cell? ⟨gb294, 4, none⟩ = some (.int .i64 a0_4) := (blk_cell BK294.out 4).trans rfl; have hfz15_0 := blk_frozen BK294.out 0; have hfz15_1 := blk_frozen BK294.out 1; have hfz15_2 := blk_frozen BK294.out 2; have hfz15_3 := blk_frozen BK294.out 3; have hfz15_4 := blk_frozen BK294.out 4) | ((with_reducible refine gate_callee (f := 34) rfl ?_); refine goesL_ (some 5) rfl rfl Try.func34 (by kernel_rfl) rfl #[.int .i64 a0_0] rfl (by (try simp only [List.map_toArray, List.map_cons, List.map_nil]); first | done | rfl | (simp only [List.length_drop, List.length_take]; rfl)) ?_; (with_reducible refine (spliceref02_three.calls a0_0 true _ A2.out).mono ?_); rintro e w' ⟨rfl, ⟨nd, rfl⟩⟩; refine ⟨_, rfl, ?_⟩) | ((with_reducible refine gate_callee (f := 51) rfl ?_); refine goesL_ (some 8) rfl rfl Try.func51 (by kernel_rfl) rfl #[.int .i64 a0_1] rfl (by (try simp only [List.map_toArray, List.map_cons, List.map_nil]); first | done | rfl | (simp only [List.length_drop, List.length_take]; rfl)) ?_; (with_reducible refine (spliceref02_reg.calls a0_1 true _ A4.out).mono ?_); rintro e w' ⟨rfl, ⟨nd, rfl⟩⟩; refine ⟨_, rfl, ?_⟩) | (go_at_call 51; (with_reducible refine (spliceref02_reg.calls a0_2 false _ A6.out).mono ?_); rintro e w' ⟨rfl, ⟨nd, rfl⟩⟩))
    go_ret
    exact ⟨by first | rfl | (simp [errW_none, errW_some] <;> rfl) | (simp [*, errW_none, errW_some] <;> rfl), by repeat (first | (with_reducible first | exact HB.out | apply below_alloc | apply pw_below_drewN | apply below_drew1 | refine below_set ?_ GE294.out) | exact HB.out)⟩
  ·
   replace c5 := Bool.eq_false_iff.mpr c5
   subst c5
   have H1 : (some false) = some r := by rw [if_neg (show ¬ (false = true) by decide)] at H; exact H
   clear H
   have H := H1
   clear H1
   obtain rfl := Option.some.inj H
   go_enter Try.func37, Try.ntmps37
   go_wp2_with (first | ((with_reducible refine gate_dst (N := 1) rfl ?_); refine box_event ?hg (N := 1) ?hd (cs := #[.int .i64 a0_0, .int .i64 a0_1, .int .i64 a0_2, .int .i64 a0_3, .int .i64 a0_4]) (t := 40) ?hr ?_; (case hd => rfl); (case hg => rfl); (case hr => first | (go_simp; done) | (go_simp; rfl)); intro gb294 hg w16 hbox hb; have n0_ := Aside0.mk (below_step (by repeat (first | (with_reducible first | exact HB.out | apply below_alloc | apply pw_below_drewN | apply below_drew1) | exact HB.out)) hb); have n1_ := Aside0.mk (hbox); have n2_ := Aside0.mk ((by rw [hg]; exact (below_size (by repeat (first | (with_reducible first | exact HB.out | apply below_alloc | apply pw_below_drewN | apply below_drew1) | exact HB.out))) : w.heap.size ≤ gb294)); have n3_ := Aside0.mk ((by rw [hg]; exact (below_size (by repeat (first | (with_reducible first | exact HB.out | apply below_alloc | apply pw_below_drewN | apply below_drew1) | exact HB.out))) : w.heap.size ≤ gb294)); clear HB; have HB := n0_; have BK294 := n1_; have GW294 := n2_; have GE294 := n3_; clear n0_ n1_ n2_ n3_; clear hb hbox hg; have hcz17_0 : w16.cell? ⟨gb294, 0, none⟩ = some (.int .i64 a0_0) := (blk_cell BK294.out 0).trans rfl; have hcz17_1 : w16.cell? ⟨gb294, 1, none⟩ = some (.int .i64 a0_1) := (blk_cell BK294.out 1).trans rfl; have hcz17_2 : w16.cell? ⟨gb294, 2, none⟩ = some (.int .i64 a0_2) := (blk_cell BK294.out 2).trans rfl; have hcz17_3 : w16.cell? ⟨gb294, 3, none⟩ = some (.int .i64 a0_3) := (blk_cell BK294.out 3).trans rfl; have hcz17_4 : w16.cell? ⟨gb294, 4, none⟩ = some (.int .i64 a0_4) := (blk_cell BK294.out 4).trans rfl; have hfz17_0 := blk_frozen BK294.out 0; have hfz17_1 := blk_frozen BK294.out 1; have hfz17_2 := blk_frozen BK294.out 2; have hfz17_3 := blk_frozen BK294.out 3; have hfz17_4 := blk_frozen BK294.out 4) | ((with_reducible refine gate_callee (f := 34) rfl ?_); refine goesL_ (some 5) rfl rfl Try.func34 (by kernel_rfl) rfl #[.int .i64 a0_0] rfl (by (try simp only [List.map_toArray, List.map_cons, List.map_nil]); first | done | rfl | (simp only [List.length_drop, List.length_take]; rfl)) ?_; (with_reducible refine (spliceref02_three.calls a0_0 true _ A2.out).mono ?_); rintro e w' ⟨rfl, ⟨nd, rfl⟩⟩; refine ⟨_, rfl, ?_⟩) | ((with_reducible refine gate_callee (f := 51) rfl ?_); refine goesL_ (some 8) rfl rfl Try.func51 (by kernel_rfl) rfl #[.int .i64 a0_1] rfl (by (try simp only [List.map_toArray, List.map_cons, List.map_nil]); first | done | rfl | (simp only [List.length_drop, List.length_take]; rfl)) ?_; (with_reducible refine (spliceref02_reg.calls a0_1 false _ A4.out).mono ?_); rintro e w' ⟨rfl, ⟨nd, rfl⟩⟩; refine ⟨_, rfl, ?_⟩))
   go_ret
   exact ⟨by first | rfl | (simp [errW_none, errW_some] <;> rfl) | (simp [*, errW_none, errW_some] <;> rfl), by repeat (first | (with_reducible first | exact HB.out | apply below_alloc | apply pw_below_drewN | apply below_drew1 | refine below_set ?_ GE294.out) | exact HB.out)⟩
 ·
  replace c3 := Bool.eq_false_iff.mpr c3
  subst c3
  have H1 : (if a0_3 = 0 then ((spliceref02_near.f a0_0).bind fun t299 => (if t299 = true then ((spliceref02_reg.f a0_1).bind fun t300 => (if t300 = true then ((spliceref02_reg.f a0_2).bind fun t301 => (if t301 = true then (if a0_4 ≥ (-32768) then (some (decide (a0_4 ≤ 32767))) else (some false)) else (some false))) else (some false))) else (if a0_0 = 10 then ((spliceref02_reg.f a0_1).bind fun t302 => (if t302 = true then ((spliceref02_reg.f a0_2).bind fun t303 => (if t303 = true then (if a0_4 ≥ 0 then (some (decide (a0_4 ≤ 65535))) else (some false)) else (some false))) else (some false))) else ((spliceref02_branch.f a0_0).bind fun t304 => (if t304 = true then ((spliceref02_reg.f a0_1).bind fun t305 => (if t305 = true then ((spliceref02_reg.f a0_2).bind fun t306 => (if t306 = true then (if a0_4 ≥ (-128) then (some (decide (a0_4 ≤ 127))) else (some false)) else (some false))) else (some false))) else (if a0_2 = 0 then (if a0_0 = 9 then ((spliceref02_reg.f a0_1).bind fun t307 => (if t307 = true then (if a0_4 ≥ 0 then (some (decide (a0_4 ≤ 65535))) else (some false)) else (some false))) else ((spliceref02_one.f a0_0).bind fun t308 => (if t308 = true then ((spliceref02_reg.f a0_1).bind fun t309 => (if t309 = true then (some (a0_4 == 0)) else (some false))) else ((spliceref02_far.f a0_0).bind fun t310 => (if t310 = true then (if a0_1 = 0 then (if a0_4 ≥ (-8388608) then (some (decide (a0_4 ≤ 8388607))) else (some false)) else (some false)) else (if a0_0 = 21 then (if a0_1 = 0 then (some (a0_4 == 0)) else (some false)) else (if a0_0 = 24 then (if a0_1 = 0 then (some (a0_4 == 0)) else (some false)) else (if a0_0 = 25 then (if a0_1 = 0 then (some (a0_4 == 0)) else (some false)) else (some false))))))))) else (some false))))))) else (some false)) = some r := by rw [if_neg (show ¬ (false = true) by decide)] at H; exact H
  clear H
  have H := H1
  clear H1
  by_cases c18 : a0_3 = 0
  ·
   rw [if_pos c18] at H
   have c18b0 : (a0_3 == 0) = true := beq_iff_eq.mpr c18
   have c18b1 : (a0_3 != 0) = false := bne_eq_false_iff_eq.mpr c18
   clear c18
   replace H := Option.bind_eq_some_iff.mp H
   obtain ⟨t299, A190, H⟩ := H
   replace H : (if t299 = true then ((spliceref02_reg.f a0_1).bind fun t300 => (if t300 = true then ((spliceref02_reg.f a0_2).bind fun t301 => (if t301 = true then (if a0_4 ≥ (-32768) then (some (decide (a0_4 ≤ 32767))) else (some false)) else (some false))) else (some false))) else (if a0_0 = 10 then ((spliceref02_reg.f a0_1).bind fun t302 => (if t302 = true then ((spliceref02_reg.f a0_2).bind fun t303 => (if t303 = true then (if a0_4 ≥ 0 then (some (decide (a0_4 ≤ 65535))) else (some false)) else (some false))) else (some false))) else ((spliceref02_branch.f a0_0).bind fun t304 => (if t304 = true then ((spliceref02_reg.f a0_1).bind fun t305 => (if t305 = true then ((spliceref02_reg.f a0_2).bind fun t306 => (if t306 = true then (if a0_4 ≥ (-128) then (some (decide (a0_4 ≤ 127))) else (some false)) else (some false))) else (some false))) else (if a0_2 = 0 then (if a0_0 = 9 then ((spliceref02_reg.f a0_1).bind fun t307 => (if t307 = true then (if a0_4 ≥ 0 then (some (decide (a0_4 ≤ 65535))) else (some false)) else (some false))) else ((spliceref02_one.f a0_0).bind fun t308 => (if t308 = true then ((spliceref02_reg.f a0_1).bind fun t309 => (if t309 = true then (some (a0_4 == 0)) else (some false))) else ((spliceref02_far.f a0_0).bind fun t310 => (if t310 = true then (if a0_1 = 0 then (if a0_4 ≥ (-8388608) then (some (decide (a0_4 ≤ 8388607))) else (some false)) else (some false)) else (if a0_0 = 21 then (if a0_1 = 0 then (some (a0_4 == 0)) else (some false)) else (if a0_0 = 24 then (if a0_1 = 0 then (some (a0_4 == 0)) else (some false)) else (if a0_0 = 25 then (if a0_1 = 0 then (some (a0_4 == 0)) else (some false)) else (some false))))))))) else (some false)))))) = some r := H
   have A19 := Aside0.mk A190
   clear A190
   by_cases c20 : t299 = true
   ·
    subst c20
    have H1 : ((spliceref02_reg.f a0_1).bind fun t300 => (if t300 = true then ((spliceref02_reg.f a0_2).bind fun t301 => (if t301 = true then (if a0_4 ≥ (-32768) then (some (decide (a0_4 ≤ 32767))) else (some false)) else (some false))) else (some false))) = some r := by rw [if_pos rfl] at H; exact H
    clear H
    have H := H1
    clear H1
    replace H := Option.bind_eq_some_iff.mp H
    obtain ⟨t300, A210, H⟩ := H
    replace H : (if t300 = true then ((spliceref02_reg.f a0_2).bind fun t301 => (if t301 = true then (if a0_4 ≥ (-32768) then (some (decide (a0_4 ≤ 32767))) else (some false)) else (some false))) else (some false)) = some r := H
    have A21 := Aside0.mk A210
    clear A210
    by_cases c22 : t300 = true
    ·
     subst c22
     have H1 : ((spliceref02_reg.f a0_2).bind fun t301 => (if t301 = true then (if a0_4 ≥ (-32768) then (some (decide (a0_4 ≤ 32767))) else (some false)) else (some false))) = some r := by rw [if_pos rfl] at H; exact H
     clear H
     have H := H1
     clear H1
     replace H := Option.bind_eq_some_iff.mp H
     obtain ⟨t301, A230, H⟩ := H
     replace H : (if t301 = true then (if a0_4 ≥ (-32768) then (some (decide (a0_4 ≤ 32767))) else (some false)) else (some false)) = some r := H
     have A23 := Aside0.mk A230
     clear A230
     by_cases c24 : t301 = true
     ·
      subst c24
      have H1 : (if a0_4 ≥ (-32768) then (some (decide (a0_4 ≤ 32767))) else (some false)) = some r := by rw [if_pos rfl] at H; exact H
      clear H
      have H := H1
      clear H1
      by_cases c25 : a0_4 ≥ (-32768)
      ·
       rw [if_pos c25] at H
       have c25b0 : decide ((-32768) ≤ a0_4) = true := decide_eq_true c25
       clear c25
       obtain rfl := Option.some.inj H
       go_enter Try.func37, Try.ntmps37
       go_wp2_with (first | ((with_reducible refine gate_dst (N := 1) rfl ?_); refine box_event ?hg (N := 1) ?hd (cs := #[.int .i64 a0_0, .int .i64 a0_1, .int .i64 a0_2, .int .i64 a0_3, .int .i64 a0_4]) (t := 40) ?hr ?_; (case hd => rfl); (case hg => rfl); (case hr => first | (go_simp; done) | (go_simp; rfl)); intro gb294 hg w26 hbox hb; have n0_ := Aside0.mk (below_step (by repeat (first | (with_reducible first | exact HB.out | apply below_alloc | apply pw_below_drewN | apply below_drew1) | exact HB.out)) hb); have n1_ := Aside0.mk (hbox); have n2_ := Aside0.mk ((by rw [hg]; exact (below_size (by repeat (first | (with_reducible first | exact HB.out | apply below_alloc | apply pw_below_drewN | apply below_drew1) | exact HB.out))) : w.heap.size ≤ gb294)); have n3_ := Aside0.mk ((by rw [hg]; exact (below_size (by repeat (first | (with_reducible first | exact HB.out | apply below_alloc | apply pw_below_drewN | apply below_drew1) | exact HB.out))) : w.heap.size ≤ gb294)); clear HB; have HB := n0_; have BK294 := n1_; have GW294 := n2_; have GE294 := n3_; clear n0_ n1_ n2_ n3_; clear hb hbox hg; have hcz27_0 : w26.cell? ⟨gb294, 0, none⟩ = some (.int .i64 a0_0) := (blk_cell BK294.out 0).trans rfl; have hcz27_1 : w26.cell? ⟨gb294, 1, none⟩ = some (.int .i64 a0_1) := (blk_cell BK294.out 1).trans rfl; have hcz27_2 : w26.cell? ⟨gb294, 2, none⟩ = some (.int .i64 a0_2) := (blk_cell BK294.out 2).trans rfl; have hcz27_3 : w26.cell? ⟨gb294, 3, none⟩ = some (.int .i64 a0_3) := (blk_cell BK294.out 3).trans rfl; have hcz27_4 : w26.cell? ⟨gb294, 4, none⟩ = some (.int .i64 a0_4) := (blk_cell BK294.out 4).trans rfl; have hfz27_0 := blk_frozen BK294.out 0; have hfz27_1 := blk_frozen BK294.out 1; have hfz27_2 := blk_frozen BK294.out 2; have hfz27_3 := blk_frozen BK294.out 3; have hfz27_4 := blk_frozen BK294.out 4) | ((with_reducible refine gate_callee (f := 34) rfl ?_); refine goesL_ (some 5) rfl rfl Try.func34 (by kernel_rfl) rfl #[.int .i64 a0_0] rfl (by (try simp only [List.map_toArray, List.map_cons, List.map_nil]); first | done | rfl | (simp only [List.length_drop, List.length_take]; rfl)) ?_; (with_reducible refine (spliceref02_three.calls a0_0 false _ A2.out).mono ?_); rintro e w' ⟨rfl, ⟨nd, rfl⟩⟩; refine ⟨_, rfl, ?_⟩) | ((with_reducible refine gate_callee (f := 35) rfl ?_); refine goesL_ (some 29) rfl rfl Try.func35 (by kernel_rfl) rfl #[.int .i64 a0_0] rfl (by (try simp only [List.map_toArray, List.map_cons, List.map_nil]); first | done | rfl | (simp only [List.length_drop, List.length_take]; rfl)) ?_; (with_reducible refine (spliceref02_near.calls a0_0 true _ A19.out).mono ?_); rintro e w' ⟨rfl, ⟨nd, rfl⟩⟩; refine ⟨_, rfl, ?_⟩) | ((with_reducible refine gate_callee (f := 51) rfl ?_); refine goesL_ (some 32) rfl rfl Try.func51 (by kernel_rfl) rfl #[.int .i64 a0_1] rfl (by (try simp only [List.map_toArray, List.map_cons, List.map_nil]); first | done | rfl | (simp only [List.length_drop, List.length_take]; rfl)) ?_; (with_reducible refine (spliceref02_reg.calls a0_1 true _ A21.out).mono ?_); rintro e w' ⟨rfl, ⟨nd, rfl⟩⟩; refine ⟨_, rfl, ?_⟩) | (go_at_call 51; (with_reducible refine (spliceref02_reg.calls a0_2 true _ A23.out).mono ?_); rintro e w' ⟨rfl, ⟨nd, rfl⟩⟩))
       go_ret
       exact ⟨by first | rfl | (simp [errW_none, errW_some] <;> rfl) | (simp [*, errW_none, errW_some] <;> rfl), by repeat (first | (with_reducible first | exact HB.out | apply below_alloc | apply pw_below_drewN | apply below_drew1 | refine below_set ?_ GE294.out) | exact HB.out)⟩
      ·
       rw [if_neg c25] at H
       have c25b0 : decide ((-32768) ≤ a0_4) = false := decide_eq_false c25
       clear c25
       obtain rfl := Option.some.inj H
       go_enter Try.func37, Try.ntmps37
       go_wp2_with (first | ((with_reducible refine gate_dst (N := 1) rfl ?_); refine box_event ?hg (N := 1) ?hd (cs := #[.int .i64 a0_0, .int .i64 a0_1, .int .i64 a0_2, .int .i64 a0_3, .int .i64 a0_4]) (t := 40) ?hr ?_; (case hd => rfl); (case hg => rfl); (case hr => first | (go_simp; done) | (go_simp; rfl)); intro gb294 hg w28 hbox hb; have n0_ := Aside0.mk (below_step (by repeat (first | (with_reducible first | exact HB.out | apply below_alloc | apply pw_below_drewN | apply below_drew1) | exact HB.out)) hb); have n1_ := Aside0.mk (hbox); have n2_ := Aside0.mk ((by rw [hg]; exact (below_size (by repeat (first | (with_reducible first | exact HB.out | apply below_alloc | apply pw_below_drewN | apply below_drew1) | exact HB.out))) : w.heap.size ≤ gb294)); have n3_ := Aside0.mk ((by rw [hg]; exact (below_size (by repeat (first | (with_reducible first | exact HB.out | apply below_alloc | apply pw_below_drewN | apply below_drew1) | exact HB.out))) : w.heap.size ≤ gb294)); clear HB; have HB := n0_; have BK294 := n1_; have GW294 := n2_; have GE294 := n3_; clear n0_ n1_ n2_ n3_; clear hb hbox hg; have hcz29_0 : w28.cell? ⟨gb294, 0, none⟩ = some (.int .i64 a0_0) := (blk_cell BK294.out 0).trans rfl; have hcz29_1 : w28.cell? ⟨gb294, 1, none⟩ = some (.int .i64 a0_1) := (blk_cell BK294.out 1).trans rfl; have hcz29_2 : w28.cell? ⟨gb294, 2, none⟩ = some (.int .i64 a0_2) := (blk_cell BK294.out 2).trans rfl; have hcz29_3 : w28.cell? ⟨gb294, 3, none⟩ = some (.int .i64 a0_3) := (blk_cell BK294.out 3).trans rfl; have hcz29_4 : w28.cell? ⟨gb294, 4, none⟩ = some (.int .i64 a0_4) := (blk_cell BK294.out 4).trans rfl; have hfz29_0 := blk_frozen BK294.out 0; have hfz29_1 := blk_frozen BK294.out 1; have hfz29_2 := blk_frozen BK294.out 2; have hfz29_3 := blk_frozen BK294.out 3; have hfz29_4 := blk_frozen BK294.out 4) | ((with_reducible refine gate_callee (f := 34) rfl ?_); refine goesL_ (some 5) rfl rfl Try.func34 (by kernel_rfl) rfl #[.int .i64 a0_0] rfl (by (try simp only [List.map_toArray, List.map_cons, List.map_nil]); first | done | rfl | (simp only [List.length_drop, List.length_take]; rfl)) ?_; (with_reducible refine (spliceref02_three.calls a0_0 false _ A2.out).mono ?_); rintro e w' ⟨rfl, ⟨nd, rfl⟩⟩; refine ⟨_, rfl, ?_⟩) | ((with_reducible refine gate_callee (f := 35) rfl ?_); refine goesL_ (some 29) rfl rfl Try.func35 (by kernel_rfl) rfl #[.int .i64 a0_0] rfl (by (try simp only [List.map_toArray, List.map_cons, List.map_nil]); first | done | rfl | (simp only [List.length_drop, List.length_take]; rfl)) ?_; (with_reducible refine (spliceref02_near.calls a0_0 true _ A19.out).mono ?_); rintro e w' ⟨rfl, ⟨nd, rfl⟩⟩; refine ⟨_, rfl, ?_⟩) | ((with_reducible refine gate_callee (f := 51) rfl ?_); refine goesL_ (some 32) rfl rfl Try.func51 (by kernel_rfl) rfl #[.int .i64 a0_1] rfl (by (try simp only [List.map_toArray, List.map_cons, List.map_nil]); first | done | rfl | (simp only [List.length_drop, List.length_take]; rfl)) ?_; (with_reducible refine (spliceref02_reg.calls a0_1 true _ A21.out).mono ?_); rintro e w' ⟨rfl, ⟨nd, rfl⟩⟩; refine ⟨_, rfl, ?_⟩) | (go_at_call 51; (with_reducible refine (spliceref02_reg.calls a0_2 true _ A23.out).mono ?_); rintro e w' ⟨rfl, ⟨nd, rfl⟩⟩))
       go_ret
       exact ⟨by first | rfl | (simp [errW_none, errW_some] <;> rfl) | (simp [*, errW_none, errW_some] <;> rfl), by repeat (first | (with_reducible first | exact HB.out | apply below_alloc | apply pw_below_drewN | apply below_drew1 | refine below_set ?_ GE294.out) | exact HB.out)⟩
     ·
      replace c24 := Bool.eq_false_iff.mpr c24
      subst c24
      have H1 : (some false) = some r := by rw [if_neg (show ¬ (false = true) by decide)] at H; exact H
      clear H
      have H := H1
      clear H1
      obtain rfl := Option.some.inj H
      go_enter Try.func37, Try.ntmps37
      go_wp2_with (first | ((with_reducible refine gate_dst (N := 1) rfl ?_); refine box_event ?hg (N := 1) ?hd (cs := #[.int .i64 a0_0, .int .i64 a0_1, .int .i64 a0_2, .int .i64 a0_3, .int .i64 a0_4]) (t := 40) ?hr ?_; (case hd => rfl); (case hg => rfl); (case hr => first | (go_simp; done) | (go_simp; rfl)); intro gb294 hg w30 hbox hb; have n0_ := Aside0.mk (below_step (by repeat (first | (with_reducible first | exact HB.out | apply below_alloc | apply pw_below_drewN | apply below_drew1) | exact HB.out)) hb); have n1_ := Aside0.mk (hbox); have n2_ := Aside0.mk ((by rw [hg]; exact (below_size (by repeat (first | (with_reducible first | exact HB.out | apply below_alloc | apply pw_below_drewN | apply below_drew1) | exact HB.out))) : w.heap.size ≤ gb294)); have n3_ := Aside0.mk ((by rw [hg]; exact (below_size (by repeat (first | (with_reducible first | exact HB.out | apply below_alloc | apply pw_below_drewN | apply below_drew1) | exact HB.out))) : w.heap.size ≤ gb294)); clear HB; have HB := n0_; have BK294 := n1_; have GW294 := n2_; have GE294 := n3_; clear n0_ n1_ n2_ n3_; clear hb hbox hg; have hcz31_0 : w30.cell? ⟨gb294, 0, none⟩ = some (.int .i64 a0_0) := (blk_cell BK294.out 0).trans rfl; have hcz31_1 : w30.cell? ⟨gb294, 1, none⟩ = some (.int .i64 a0_1) := (blk_cell BK294.out 1).trans rfl; have hcz31_2 : w30.cell? ⟨gb294, 2, none⟩ = some (.int .i64 a0_2) := (blk_cell BK294.out 2).trans rfl; have hcz31_3 : w30.cell? ⟨gb294, 3, none⟩ = some (.int .i64 a0_3) := (blk_cell BK294.out 3).trans rfl; have hcz31_4 : w30.cell? ⟨gb294, 4, none⟩ = some (.int .i64 a0_4) := (blk_cell BK294.out 4).trans rfl; have hfz31_0 := blk_frozen BK294.out 0; have hfz31_1 := blk_frozen BK294.out 1; have hfz31_2 := blk_frozen BK294.out 2; have hfz31_3 := blk_frozen BK294.out 3; have hfz31_4 := blk_frozen BK294.out 4) | ((with_reducible refine gate_callee (f := 34) rfl ?_); refine goesL_ (some 5) rfl rfl Try.func34 (by kernel_rfl) rfl #[.int .i64 a0_0] rfl (by (try simp only [List.map_toArray, List.map_cons, List.map_nil]); first | done | rfl | (simp only [List.length_drop, List.length_take]; rfl)) ?_; (with_reducible refine (spliceref02_three.calls a0_0 false _ A2.out).mono ?_); rintro e w' ⟨rfl, ⟨nd, rfl⟩⟩; refine ⟨_, rfl, ?_⟩) | ((with_reducible refine gate_callee (f := 35) rfl ?_); refine goesL_ (some 29) rfl rfl Try.func35 (by kernel_rfl) rfl #[.int .i64 a0_0] rfl (by (try simp only [List.map_toArray, List.map_cons, List.map_nil]); first | done | rfl | (simp only [List.length_drop, List.length_take]; rfl)) ?_; (with_reducible refine (spliceref02_near.calls a0_0 true _ A19.out).mono ?_); rintro e w' ⟨rfl, ⟨nd, rfl⟩⟩; refine ⟨_, rfl, ?_⟩) | ((with_reducible refine gate_callee (f := 51) rfl ?_); refine goesL_ (some 32) rfl rfl Try.func51 (by kernel_rfl) rfl #[.int .i64 a0_1] rfl (by (try simp only [List.map_toArray, List.map_cons, List.map_nil]); first | done | rfl | (simp only [List.length_drop, List.length_take]; rfl)) ?_; (with_reducible refine (spliceref02_reg.calls a0_1 true _ A21.out).mono ?_); rintro e w' ⟨rfl, ⟨nd, rfl⟩⟩; refine ⟨_, rfl, ?_⟩) | (go_at_call 51; (with_reducible refine (spliceref02_reg.calls a0_2 false _ A23.out).mono ?_); rintro e w' ⟨rfl, ⟨nd, rfl⟩⟩))
      go_ret
      exact ⟨by first | rfl | (simp [errW_none, errW_some] <;> rfl) | (simp [*, errW_none, errW_some] <;> rfl), by repeat (first | (with_reducible first | exact HB.out | apply below_alloc | apply pw_below_drewN | apply below_drew1 | refine below_set ?_ GE294.out) | exact HB.out)⟩
    ·
     replace c22 := Bool.eq_false_iff.mpr c22
     subst c22
     have H1 : (some false) = some r := by rw [if_neg (show ¬ (false = true) by decide)] at H; exact H
     clear H
     have H := H1
     clear H1
     obtain rfl := Option.some.inj H
     go_enter Try.func37, Try.ntmps37
     go_wp2_with (first | ((with_reducible refine gate_dst (N := 1) rfl ?_); refine box_event ?hg (N := 1) ?hd (cs := #[.int .i64 a0_0, .int .i64 a0_1, .int .i64 a0_2, .int .i64 a0_3, .int .i64 a0_4]) (t := 40) ?hr ?_; (case hd => rfl); (case hg => rfl); (case hr => first | (go_simp; done) | (go_simp; rfl)); intro gb294 hg w32 hbox hb; have n0_ := Aside0.mk (below_step (by repeat (first | (with_reducible first | exact HB.out | apply below_alloc | apply pw_below_drewN | apply below_drew1) | exact HB.out)) hb); have n1_ := Aside0.mk (hbox); have n2_ := Aside0.mk ((by rw [hg]; exact (below_size (by repeat (first | (with_reducible first | exact HB.out | apply below_alloc | apply pw_below_drewN | apply below_drew1) | exact HB.out))) : w.heap.size ≤ gb294)); have n3_ := Aside0.mk ((by rw [hg]; exact (below_size (by repeat (first | (with_reducible first | exact HB.out | apply below_alloc | apply pw_below_drewN | apply below_drew1) | exact HB.out))) : w.heap.size ≤ gb294)); clear HB; have HB := n0_; have BK294 := n1_; have GW294 := n2_; have GE294 := n3_; clear n0_ n1_ n2_ n3_; clear hb hbox hg; have hcz33_0 : w32.cell? ⟨gb294, 0, none⟩ = some (.int .i64 a0_0) := (blk_cell BK294.out 0).trans rfl; have hcz33_1 : w32.cell? ⟨gb294, 1, none⟩ = some (.int .i64 a0_1) := (blk_cell BK294.out 1).trans rfl; have hcz33_2 : w32.cell? ⟨gb294, 2, none⟩ = some (.int .i64 a0_2) := (blk_cell BK294.out 2).trans rfl; have hcz33_3 : w32.cell? ⟨gb294, 3, none⟩ = some (.int .i64 a0_3) := (blk_cell BK294.out 3).trans rfl; have hcz33_4 : w32.cell? ⟨gb294, 4, none⟩ = some (.int .i64 a0_4) := (blk_cell BK294.out 4).trans rfl; have hfz33_0 := blk_frozen BK294.out 0; have hfz33_1 := blk_frozen BK294.out 1; have hfz33_2 := blk_frozen BK294.out 2; have hfz33_3 := blk_frozen BK294.out 3; have hfz33_4 := blk_frozen BK294.out 4) | ((with_reducible refine gate_callee (f := 34) rfl ?_); refine goesL_ (some 5) rfl rfl Try.func34 (by kernel_rfl) rfl #[.int .i64 a0_0] rfl (by (try simp only [List.map_toArray, List.map_cons, List.map_nil]); first | done | rfl | (simp only [List.length_drop, List.length_take]; rfl)) ?_; (with_reducible refine (spliceref02_three.calls a0_0 false _ A2.out).mono ?_); rintro e w' ⟨rfl, ⟨nd, rfl⟩⟩; refine ⟨_, rfl, ?_⟩) | ((with_reducible refine gate_callee (f := 35) rfl ?_); refine goesL_ (some 29) rfl rfl Try.func35 (by kernel_rfl) rfl #[.int .i64 a0_0] rfl (by (try simp only [List.map_toArray, List.map_cons, List.map_nil]); first | done | rfl | (simp only [List.length_drop, List.length_take]; rfl)) ?_; (with_reducible refine (spliceref02_near.calls a0_0 true _ A19.out).mono ?_); rintro e w' ⟨rfl, ⟨nd, rfl⟩⟩; refine ⟨_, rfl, ?_⟩) | ((with_reducible refine gate_callee (f := 51) rfl ?_); refine goesL_ (some 32) rfl rfl Try.func51 (by kernel_rfl) rfl #[.int .i64 a0_1] rfl (by (try simp only [List.map_toArray, List.map_cons, List.map_nil]); first | done | rfl | (simp only [List.length_drop, List.length_take]; rfl)) ?_; (with_reducible refine (spliceref02_reg.calls a0_1 false _ A21.out).mono ?_); rintro e w' ⟨rfl, ⟨nd, rfl⟩⟩; refine ⟨_, rfl, ?_⟩))
     go_ret
     exact ⟨by first | rfl | (simp [errW_none, errW_some] <;> rfl) | (simp [*, errW_none, errW_some] <;> rfl), by repeat (first | (with_reducible first | exact HB.out | apply below_alloc | apply pw_below_drewN | apply below_drew1 | refine below_set ?_ GE294.out) | exact HB.out)⟩
   ·
    replace c20 := Bool.eq_false_iff.mpr c20
    subst c20
    have H1 : (if a0_0 = 10 then ((spliceref02_reg.f a0_1).bind fun t302 => (if t302 = true then ((spliceref02_reg.f a0_2).bind fun t303 => (if t303 = true then (if a0_4 ≥ 0 then (some (decide (a0_4 ≤ 65535))) else (some false)) else (some false))) else (some false))) else ((spliceref02_branch.f a0_0).bind fun t304 => (if t304 = true then ((spliceref02_reg.f a0_1).bind fun t305 => (if t305 = true then ((spliceref02_reg.f a0_2).bind fun t306 => (if t306 = true then (if a0_4 ≥ (-128) then (some (decide (a0_4 ≤ 127))) else (some false)) else (some false))) else (some false))) else (if a0_2 = 0 then (if a0_0 = 9 then ((spliceref02_reg.f a0_1).bind fun t307 => (if t307 = true then (if a0_4 ≥ 0 then (some (decide (a0_4 ≤ 65535))) else (some false)) else (some false))) else ((spliceref02_one.f a0_0).bind fun t308 => (if t308 = true then ((spliceref02_reg.f a0_1).bind fun t309 => (if t309 = true then (some (a0_4 == 0)) else (some false))) else ((spliceref02_far.f a0_0).bind fun t310 => (if t310 = true then (if a0_1 = 0 then (if a0_4 ≥ (-8388608) then (some (decide (a0_4 ≤ 8388607))) else (some false)) else (some false)) else (if a0_0 = 21 then (if a0_1 = 0 then (some (a0_4 == 0)) else (some false)) else (if a0_0 = 24 then (if a0_1 = 0 then (some (a0_4 == 0)) else (some false)) else (if a0_0 = 25 then (if a0_1 = 0 then (some (a0_4 == 0)) else (some false)) else (some false))))))))) else (some false))))) = some r := by rw [if_neg (show ¬ (false = true) by decide)] at H; exact H
    clear H
    have H := H1
    clear H1
    by_cases c34 : a0_0 = 10
    ·
     rw [if_pos c34] at H
     have c34b0 : (a0_0 == 10) = true := beq_iff_eq.mpr c34
     have c34b1 : (a0_0 != 10) = false := bne_eq_false_iff_eq.mpr c34
     clear c34
     replace H := Option.bind_eq_some_iff.mp H
     obtain ⟨t302, A350, H⟩ := H
     replace H : (if t302 = true then ((spliceref02_reg.f a0_2).bind fun t303 => (if t303 = true then (if a0_4 ≥ 0 then (some (decide (a0_4 ≤ 65535))) else (some false)) else (some false))) else (some false)) = some r := H
     have A35 := Aside0.mk A350
     clear A350
     by_cases c36 : t302 = true
     ·
      subst c36
      have H1 : ((spliceref02_reg.f a0_2).bind fun t303 => (if t303 = true then (if a0_4 ≥ 0 then (some (decide (a0_4 ≤ 65535))) else (some false)) else (some false))) = some r := by rw [if_pos rfl] at H; exact H
      clear H
      have H := H1
      clear H1
      replace H := Option.bind_eq_some_iff.mp H
      obtain ⟨t303, A370, H⟩ := H
      replace H : (if t303 = true then (if a0_4 ≥ 0 then (some (decide (a0_4 ≤ 65535))) else (some false)) else (some false)) = some r := H
      have A37 := Aside0.mk A370
      clear A370
      by_cases c38 : t303 = true
      ·
       subst c38
       have H1 : (if a0_4 ≥ 0 then (some (decide (a0_4 ≤ 65535))) else (some false)) = some r := by rw [if_pos rfl] at H; exact H
       clear H
       have H := H1
       clear H1
       by_cases c39 : a0_4 ≥ 0
       ·
        rw [if_pos c39] at H
        have c39b0 : decide (0 ≤ a0_4) = true := decide_eq_true c39
        clear c39
        obtain rfl := Option.some.inj H
        go_enter Try.func37, Try.ntmps37
        go_wp2_with (first | ((with_reducible refine gate_dst (N := 1) rfl ?_); refine box_event ?hg (N := 1) ?hd (cs := #[.int .i64 a0_0, .int .i64 a0_1, .int .i64 a0_2, .int .i64 a0_3, .int .i64 a0_4]) (t := 40) ?hr ?_; (case hd => rfl); (case hg => rfl); (case hr => first | (go_simp; done) | (go_simp; rfl)); intro gb294 hg w40 hbox hb; have n0_ := Aside0.mk (below_step (by repeat (first | (with_reducible first | exact HB.out | apply below_alloc | apply pw_below_drewN | apply below_drew1) | exact HB.out)) hb); have n1_ := Aside0.mk (hbox); have n2_ := Aside0.mk ((by rw [hg]; exact (below_size (by repeat (first | (with_reducible first | exact HB.out | apply below_alloc | apply pw_below_drewN | apply below_drew1) | exact HB.out))) : w.heap.size ≤ gb294)); have n3_ := Aside0.mk ((by rw [hg]; exact (below_size (by repeat (first | (with_reducible first | exact HB.out | apply below_alloc | apply pw_below_drewN | apply below_drew1) | exact HB.out))) : w.heap.size ≤ gb294)); clear HB; have HB := n0_; have BK294 := n1_; have GW294 := n2_; have GE294 := n3_; clear n0_ n1_ n2_ n3_; clear hb hbox hg; have hcz41_0 : w40.cell? ⟨gb294, 0, none⟩ = some (.int .i64 a0_0) := (blk_cell BK294.out 0).trans rfl; have hcz41_1 : w40.cell? ⟨gb294, 1, none⟩ = some (.int .i64 a0_1) := (blk_cell BK294.out 1).trans rfl; have hcz41_2 : w40.cell? ⟨gb294, 2, none⟩ = some (.int .i64 a0_2) := (blk_cell BK294.out 2).trans rfl; have hcz41_3 : w40.cell? ⟨gb294, 3, none⟩ = some (.int .i64 a0_3) := (blk_cell BK294.out 3).trans rfl; have hcz41_4 : w40.cell? ⟨gb294, 4, none⟩ = some (.int .i64 a0_4) := (blk_cell BK294.out 4).trans rfl; have hfz41_0 := blk_frozen BK294.out 0; have hfz41_1 := blk_frozen BK294.out 1; have hfz41_2 := blk_frozen BK294.out 2; have hfz41_3 := blk_frozen BK294.out 3; have hfz41_4 := blk_frozen BK294.out 4) | ((with_reducible refine gate_callee (f := 34) rfl ?_); refine goesL_ (some 5) rfl rfl Try.func34 (by kernel_rfl) rfl #[.int .i64 a0_0] rfl (by (try simp only [List.map_toArray, List.map_cons, List.map_nil]); first | done | rfl | (simp only [List.length_drop, List.length_take]; rfl)) ?_; (with_reducible refine (spliceref02_three.calls a0_0 false _ A2.out).mono ?_); rintro e w' ⟨rfl, ⟨nd, rfl⟩⟩; refine ⟨_, rfl, ?_⟩) | ((with_reducible refine gate_callee (f := 35) rfl ?_); refine goesL_ (some 29) rfl rfl Try.func35 (by kernel_rfl) rfl #[.int .i64 a0_0] rfl (by (try simp only [List.map_toArray, List.map_cons, List.map_nil]); first | done | rfl | (simp only [List.length_drop, List.length_take]; rfl)) ?_; (with_reducible refine (spliceref02_near.calls a0_0 false _ A19.out).mono ?_); rintro e w' ⟨rfl, ⟨nd, rfl⟩⟩; refine ⟨_, rfl, ?_⟩) | ((with_reducible refine gate_callee (f := 51) rfl ?_); refine goesL_ (some 53) rfl rfl Try.func51 (by kernel_rfl) rfl #[.int .i64 a0_1] rfl (by (try simp only [List.map_toArray, List.map_cons, List.map_nil]); first | done | rfl | (simp only [List.length_drop, List.length_take]; rfl)) ?_; (with_reducible refine (spliceref02_reg.calls a0_1 true _ A35.out).mono ?_); rintro e w' ⟨rfl, ⟨nd, rfl⟩⟩; refine ⟨_, rfl, ?_⟩) | (go_at_call 51; (with_reducible refine (spliceref02_reg.calls a0_2 true _ A37.out).mono ?_); rintro e w' ⟨rfl, ⟨nd, rfl⟩⟩))
        go_ret
        exact ⟨by first | rfl | (simp [errW_none, errW_some] <;> rfl) | (simp [*, errW_none, errW_some] <;> rfl), by repeat (first | (with_reducible first | exact HB.out | apply below_alloc | apply pw_below_drewN | apply below_drew1 | refine below_set ?_ GE294.out) | exact HB.out)⟩
       ·
        rw [if_neg c39] at H
        have c39b0 : decide (0 ≤ a0_4) = false := decide_eq_false c39
        clear c39
        obtain rfl := Option.some.inj H
        go_enter Try.func37, Try.ntmps37
        go_wp2_with (first | ((with_reducible refine gate_dst (N := 1) rfl ?_); refine box_event ?hg (N := 1) ?hd (cs := #[.int .i64 a0_0, .int .i64 a0_1, .int .i64 a0_2, .int .i64 a0_3, .int .i64 a0_4]) (t := 40) ?hr ?_; (case hd => rfl); (case hg => rfl); (case hr => first | (go_simp; done) | (go_simp; rfl)); intro gb294 hg w42 hbox hb; have n0_ := Aside0.mk (below_step (by repeat (first | (with_reducible first | exact HB.out | apply below_alloc | apply pw_below_drewN | apply below_drew1) | exact HB.out)) hb); have n1_ := Aside0.mk (hbox); have n2_ := Aside0.mk ((by rw [hg]; exact (below_size (by repeat (first | (with_reducible first | exact HB.out | apply below_alloc | apply pw_below_drewN | apply below_drew1) | exact HB.out))) : w.heap.size ≤ gb294)); have n3_ := Aside0.mk ((by rw [hg]; exact (below_size (by repeat (first | (with_reducible first | exact HB.out | apply below_alloc | apply pw_below_drewN | apply below_drew1) | exact HB.out))) : w.heap.size ≤ gb294)); clear HB; have HB := n0_; have BK294 := n1_; have GW294 := n2_; have GE294 := n3_; clear n0_ n1_ n2_ n3_; clear hb hbox hg; have hcz43_0 : w42.cell? ⟨gb294, 0, none⟩ = some (.int .i64 a0_0) := (blk_cell BK294.out 0).trans rfl; have hcz43_1 : w42.cell? ⟨gb294, 1, none⟩ = some (.int .i64 a0_1) := (blk_cell BK294.out 1).trans rfl; have hcz43_2 : w42.cell? ⟨gb294, 2, none⟩ = some (.int .i64 a0_2) := (blk_cell BK294.out 2).trans rfl; have hcz43_3 : w42.cell? ⟨gb294, 3, none⟩ = some (.int .i64 a0_3) := (blk_cell BK294.out 3).trans rfl; have hcz43_4 : w42.cell? ⟨gb294, 4, none⟩ = some (.int .i64 a0_4) := (blk_cell BK294.out 4).trans rfl; have hfz43_0 := blk_frozen BK294.out 0; have hfz43_1 := blk_frozen BK294.out 1; have hfz43_2 := blk_frozen BK294.out 2; have hfz43_3 := blk_frozen BK294.out 3; have hfz43_4 := blk_frozen BK294.out 4) | ((with_reducible refine gate_callee (f := 34) rfl ?_); refine goesL_ (some 5) rfl rfl Try.func34 (by kernel_rfl) rfl #[.int .i64 a0_0] rfl (by (try simp only [List.map_toArray, List.map_cons, List.map_nil]); first | done | rfl | (simp only [List.length_drop, List.length_take]; rfl)) ?_; (with_reducible refine (spliceref02_three.calls a0_0 false _ A2.out).mono ?_); rintro e w' ⟨rfl, ⟨nd, rfl⟩⟩; refine ⟨_, rfl, ?_⟩) | ((with_reducible refine gate_callee (f := 35) rfl ?_); refine goesL_ (some 29) rfl rfl Try.func35 (by kernel_rfl) rfl #[.int .i64 a0_0] rfl (by (try simp only [List.map_toArray, List.map_cons, List.map_nil]); first | done | rfl | (simp only [List.length_drop, List.length_take]; rfl)) ?_; (with_reducible refine (spliceref02_near.calls a0_0 false _ A19.out).mono ?_); rintro e w' ⟨rfl, ⟨nd, rfl⟩⟩; refine ⟨_, rfl, ?_⟩) | ((with_reducible refine gate_callee (f := 51) rfl ?_); refine goesL_ (some 53) rfl rfl Try.func51 (by kernel_rfl) rfl #[.int .i64 a0_1] rfl (by (try simp only [List.map_toArray, List.map_cons, List.map_nil]); first | done | rfl | (simp only [List.length_drop, List.length_take]; rfl)) ?_; (with_reducible refine (spliceref02_reg.calls a0_1 true _ A35.out).mono ?_); rintro e w' ⟨rfl, ⟨nd, rfl⟩⟩; refine ⟨_, rfl, ?_⟩) | (go_at_call 51; (with_reducible refine (spliceref02_reg.calls a0_2 true _ A37.out).mono ?_); rintro e w' ⟨rfl, ⟨nd, rfl⟩⟩))
        go_ret
        exact ⟨by first | rfl | (simp [errW_none, errW_some] <;> rfl) | (simp [*, errW_none, errW_some] <;> rfl), by repeat (first | (with_reducible first | exact HB.out | apply below_alloc | apply pw_below_drewN | apply below_drew1 | refine below_set ?_ GE294.out) | exact HB.out)⟩
      ·
       replace c38 := Bool.eq_false_iff.mpr c38
       subst c38
       have H1 : (some false) = some r := by rw [if_neg (show ¬ (false = true) by decide)] at H; exact H
       clear H
       have H := H1
       clear H1
       obtain rfl := Option.some.inj H
       go_enter Try.func37, Try.ntmps37
       go_wp2_with (first | ((with_reducible refine gate_dst (N := 1) rfl ?_); refine box_event ?hg (N := 1) ?hd (cs := #[.int .i64 a0_0, .int .i64 a0_1, .int .i64 a0_2, .int .i64 a0_3, .int .i64 a0_4]) (t := 40) ?hr ?_; (case hd => rfl); (case hg => rfl); (case hr => first | (go_simp; done) | (go_simp; rfl)); intro gb294 hg w44 hbox hb; have n0_ := Aside0.mk (below_step (by repeat (first | (with_reducible first | exact HB.out | apply below_alloc | apply pw_below_drewN | apply below_drew1) | exact HB.out)) hb); have n1_ := Aside0.mk (hbox); have n2_ := Aside0.mk ((by rw [hg]; exact (below_size (by repeat (first | (with_reducible first | exact HB.out | apply below_alloc | apply pw_below_drewN | apply below_drew1) | exact HB.out))) : w.heap.size ≤ gb294)); have n3_ := Aside0.mk ((by rw [hg]; exact (below_size (by repeat (first | (with_reducible first | exact HB.out | apply below_alloc | apply pw_below_drewN | apply below_drew1) | exact HB.out))) : w.heap.size ≤ gb294)); clear HB; have HB := n0_; have BK294 := n1_; have GW294 := n2_; have GE294 := n3_; clear n0_ n1_ n2_ n3_; clear hb hbox hg; have hcz45_0 : w44.cell? ⟨gb294, 0, none⟩ = some (.int .i64 a0_0) := (blk_cell BK294.out 0).trans rfl; have hcz45_1 : w44.cell? ⟨gb294, 1, none⟩ = some (.int .i64 a0_1) := (blk_cell BK294.out 1).trans rfl; have hcz45_2 : w44.cell? ⟨gb294, 2, none⟩ = some (.int .i64 a0_2) := (blk_cell BK294.out 2).trans rfl; have hcz45_3 : w44.cell? ⟨gb294, 3, none⟩ = some (.int .i64 a0_3) := (blk_cell BK294.out 3).trans rfl; have hcz45_4 : w44.cell? ⟨gb294, 4, none⟩ = some (.int .i64 a0_4) := (blk_cell BK294.out 4).trans rfl; have hfz45_0 := blk_frozen BK294.out 0; have hfz45_1 := blk_frozen BK294.out 1; have hfz45_2 := blk_frozen BK294.out 2; have hfz45_3 := blk_frozen BK294.out 3; have hfz45_4 := blk_frozen BK294.out 4) | ((with_reducible refine gate_callee (f := 34) rfl ?_); refine goesL_ (some 5) rfl rfl Try.func34 (by kernel_rfl) rfl #[.int .i64 a0_0] rfl (by (try simp only [List.map_toArray, List.map_cons, List.map_nil]); first | done | rfl | (simp only [List.length_drop, List.length_take]; rfl)) ?_; (with_reducible refine (spliceref02_three.calls a0_0 false _ A2.out).mono ?_); rintro e w' ⟨rfl, ⟨nd, rfl⟩⟩; refine ⟨_, rfl, ?_⟩) | ((with_reducible refine gate_callee (f := 35) rfl ?_); refine goesL_ (some 29) rfl rfl Try.func35 (by kernel_rfl) rfl #[.int .i64 a0_0] rfl (by (try simp only [List.map_toArray, List.map_cons, List.map_nil]); first | done | rfl | (simp only [List.length_drop, List.length_take]; rfl)) ?_; (with_reducible refine (spliceref02_near.calls a0_0 false _ A19.out).mono ?_); rintro e w' ⟨rfl, ⟨nd, rfl⟩⟩; refine ⟨_, rfl, ?_⟩) | ((with_reducible refine gate_callee (f := 51) rfl ?_); refine goesL_ (some 53) rfl rfl Try.func51 (by kernel_rfl) rfl #[.int .i64 a0_1] rfl (by (try simp only [List.map_toArray, List.map_cons, List.map_nil]); first | done | rfl | (simp only [List.length_drop, List.length_take]; rfl)) ?_; (with_reducible refine (spliceref02_reg.calls a0_1 true _ A35.out).mono ?_); rintro e w' ⟨rfl, ⟨nd, rfl⟩⟩; refine ⟨_, rfl, ?_⟩) | (go_at_call 51; (with_reducible refine (spliceref02_reg.calls a0_2 false _ A37.out).mono ?_); rintro e w' ⟨rfl, ⟨nd, rfl⟩⟩))
       go_ret
       exact ⟨by first | rfl | (simp [errW_none, errW_some] <;> rfl) | (simp [*, errW_none, errW_some] <;> rfl), by repeat (first | (with_reducible first | exact HB.out | apply below_alloc | apply pw_below_drewN | apply below_drew1 | refine below_set ?_ GE294.out) | exact HB.out)⟩
     ·
      replace c36 := Bool.eq_false_iff.mpr c36
      subst c36
      have H1 : (some false) = some r := by rw [if_neg (show ¬ (false = true) by decide)] at H; exact H
      clear H
      have H := H1
      clear H1
      obtain rfl := Option.some.inj H
      go_enter Try.func37, Try.ntmps37
      go_wp2_with (first | ((with_reducible refine gate_dst (N := 1) rfl ?_); refine box_event ?hg (N := 1) ?hd (cs := #[.int .i64 a0_0, .int .i64 a0_1, .int .i64 a0_2, .int .i64 a0_3, .int .i64 a0_4]) (t := 40) ?hr ?_; (case hd => rfl); (case hg => rfl); (case hr => first | (go_simp; done) | (go_simp; rfl)); intro gb294 hg w46 hbox hb; have n0_ := Aside0.mk (below_step (by repeat (first | (with_reducible first | exact HB.out | apply below_alloc | apply pw_below_drewN | apply below_drew1) | exact HB.out)) hb); have n1_ := Aside0.mk (hbox); have n2_ := Aside0.mk ((by rw [hg]; exact (below_size (by repeat (first | (with_reducible first | exact HB.out | apply below_alloc | apply pw_below_drewN | apply below_drew1) | exact HB.out))) : w.heap.size ≤ gb294)); have n3_ := Aside0.mk ((by rw [hg]; exact (below_size (by repeat (first | (with_reducible first | exact HB.out | apply below_alloc | apply pw_below_drewN | apply below_drew1) | exact HB.out))) : w.heap.size ≤ gb294)); clear HB; have HB := n0_; have BK294 := n1_; have GW294 := n2_; have GE294 := n3_; clear n0_ n1_ n2_ n3_; clear hb hbox hg; have hcz47_0 : w46.cell? ⟨gb294, 0, none⟩ = some (.int .i64 a0_0) := (blk_cell BK294.out 0).trans rfl; have hcz47_1 : w46.cell? ⟨gb294, 1, none⟩ = some (.int .i64 a0_1) := (blk_cell BK294.out 1).trans rfl; have hcz47_2 : w46.cell? ⟨gb294, 2, none⟩ = some (.int .i64 a0_2) := (blk_cell BK294.out 2).trans rfl; have hcz47_3 : w46.cell? ⟨gb294, 3, none⟩ = some (.int .i64 a0_3) := (blk_cell BK294.out 3).trans rfl; have hcz47_4 : w46.cell? ⟨gb294, 4, none⟩ = some (.int .i64 a0_4) := (blk_cell BK294.out 4).trans rfl; have hfz47_0 := blk_frozen BK294.out 0; have hfz47_1 := blk_frozen BK294.out 1; have hfz47_2 := blk_frozen BK294.out 2; have hfz47_3 := blk_frozen BK294.out 3; have hfz47_4 := blk_frozen BK294.out 4) | ((with_reducible refine gate_callee (f := 34) rfl ?_); refine goesL_ (some 5) rfl rfl Try.func34 (by kernel_rfl) rfl #[.int .i64 a0_0] rfl (by (try simp only [List.map_toArray, List.map_cons, List.map_nil]); first | done | rfl | (simp only [List.length_drop, List.length_take]; rfl)) ?_; (with_reducible refine (spliceref02_three.calls a0_0 false _ A2.out).mono ?_); rintro e w' ⟨rfl, ⟨nd, rfl⟩⟩; refine ⟨_, rfl, ?_⟩) | ((with_reducible refine gate_callee (f := 35) rfl ?_); refine goesL_ (some 29) rfl rfl Try.func35 (by kernel_rfl) rfl #[.int .i64 a0_0] rfl (by (try simp only [List.map_toArray, List.map_cons, List.map_nil]); first | done | rfl | (simp only [List.length_drop, List.length_take]; rfl)) ?_; (with_reducible refine (spliceref02_near.calls a0_0 false _ A19.out).mono ?_); rintro e w' ⟨rfl, ⟨nd, rfl⟩⟩; refine ⟨_, rfl, ?_⟩) | ((with_reducible refine gate_callee (f := 51) rfl ?_); refine goesL_ (some 53) rfl rfl Try.func51 (by kernel_rfl) rfl #[.int .i64 a0_1] rfl (by (try simp only [List.map_toArray, List.map_cons, List.map_nil]); first | done | rfl | (simp only [List.length_drop, List.length_take]; rfl)) ?_; (with_reducible refine (spliceref02_reg.calls a0_1 false _ A35.out).mono ?_); rintro e w' ⟨rfl, ⟨nd, rfl⟩⟩; refine ⟨_, rfl, ?_⟩))
      go_ret
      exact ⟨by first | rfl | (simp [errW_none, errW_some] <;> rfl) | (simp [*, errW_none, errW_some] <;> rfl), by repeat (first | (with_reducible first | exact HB.out | apply below_alloc | apply pw_below_drewN | apply below_drew1 | refine below_set ?_ GE294.out) | exact HB.out)⟩
    ·
     rw [if_neg c34] at H
     have c34b0 : (a0_0 == 10) = false := beq_eq_false_iff_ne.mpr c34
     have c34b1 : (a0_0 != 10) = true := bne_iff_ne.mpr c34
     replace H := Option.bind_eq_some_iff.mp H
     obtain ⟨t304, A480, H⟩ := H
     replace H : (if t304 = true then ((spliceref02_reg.f a0_1).bind fun t305 => (if t305 = true then ((spliceref02_reg.f a0_2).bind fun t306 => (if t306 = true then (if a0_4 ≥ (-128) then (some (decide (a0_4 ≤ 127))) else (some false)) else (some false))) else (some false))) else (if a0_2 = 0 then (if a0_0 = 9 then ((spliceref02_reg.f a0_1).bind fun t307 => (if t307 = true then (if a0_4 ≥ 0 then (some (decide (a0_4 ≤ 65535))) else (some false)) else (some false))) else ((spliceref02_one.f a0_0).bind fun t308 => (if t308 = true then ((spliceref02_reg.f a0_1).bind fun t309 => (if t309 = true then (some (a0_4 == 0)) else (some false))) else ((spliceref02_far.f a0_0).bind fun t310 => (if t310 = true then (if a0_1 = 0 then (if a0_4 ≥ (-8388608) then (some (decide (a0_4 ≤ 8388607))) else (some false)) else (some false)) else (if a0_0 = 21 then (if a0_1 = 0 then (some (a0_4 == 0)) else (some false)) else (if a0_0 = 24 then (if a0_1 = 0 then (some (a0_4 == 0)) else (some false)) else (if a0_0 = 25 then (if a0_1 = 0 then (some (a0_4 == 0)) else (some false)) else (some false))))))))) else (some false))) = some r := H
     have A48 := Aside0.mk A480
     clear A480
     by_cases c49 : t304 = true
     ·
      subst c49
      have H1 : ((spliceref02_reg.f a0_1).bind fun t305 => (if t305 = true then ((spliceref02_reg.f a0_2).bind fun t306 => (if t306 = true then (if a0_4 ≥ (-128) then (some (decide (a0_4 ≤ 127))) else (some false)) else (some false))) else (some false))) = some r := by rw [if_pos rfl] at H; exact H
      clear H
      have H := H1
      clear H1
      replace H := Option.bind_eq_some_iff.mp H
      obtain ⟨t305, A500, H⟩ := H
      replace H : (if t305 = true then ((spliceref02_reg.f a0_2).bind fun t306 => (if t306 = true then (if a0_4 ≥ (-128) then (some (decide (a0_4 ≤ 127))) else (some false)) else (some false))) else (some false)) = some r := H
      have A50 := Aside0.mk A500
      clear A500
      by_cases c51 : t305 = true
      ·
       subst c51
       have H1 : ((spliceref02_reg.f a0_2).bind fun t306 => (if t306 = true then (if a0_4 ≥ (-128) then (some (decide (a0_4 ≤ 127))) else (some false)) else (some false))) = some r := by rw [if_pos rfl] at H; exact H
       clear H
       have H := H1
       clear H1
       replace H := Option.bind_eq_some_iff.mp H
       obtain ⟨t306, A520, H⟩ := H
       replace H : (if t306 = true then (if a0_4 ≥ (-128) then (some (decide (a0_4 ≤ 127))) else (some false)) else (some false)) = some r := H
       have A52 := Aside0.mk A520
       clear A520
       by_cases c53 : t306 = true
       ·
        subst c53
        have H1 : (if a0_4 ≥ (-128) then (some (decide (a0_4 ≤ 127))) else (some false)) = some r := by rw [if_pos rfl] at H; exact H
        clear H
        have H := H1
        clear H1
        by_cases c54 : a0_4 ≥ (-128)
        ·
         rw [if_pos c54] at H
         have c54b0 : decide ((-128) ≤ a0_4) = true := decide_eq_true c54
         clear c54
         obtain rfl := Option.some.inj H
         go_enter Try.func37, Try.ntmps37
         go_wp2_with (first | ((with_reducible refine gate_dst (N := 1) rfl ?_); refine box_event ?hg (N := 1) ?hd (cs := #[.int .i64 a0_0, .int .i64 a0_1, .int .i64 a0_2, .int .i64 a0_3, .int .i64 a0_4]) (t := 40) ?hr ?_; (case hd => rfl); (case hg => rfl); (case hr => first | (go_simp; done) | (go_simp; rfl)); intro gb294 hg w55 hbox hb; have n0_ := Aside0.mk (below_step (by repeat (first | (with_reducible first | exact HB.out | apply below_alloc | apply pw_below_drewN | apply below_drew1) | exact HB.out)) hb); have n1_ := Aside0.mk (hbox); have n2_ := Aside0.mk ((by rw [hg]; exact (below_size (by repeat (first | (with_reducible first | exact HB.out | apply below_alloc | apply pw_below_drewN | apply below_drew1) | exact HB.out))) : w.heap.size ≤ gb294)); have n3_ := Aside0.mk ((by rw [hg]; exact (below_size (by repeat (first | (with_reducible first | exact HB.out | apply below_alloc | apply pw_below_drewN | apply below_drew1) | exact HB.out))) : w.heap.size ≤ gb294)); clear HB; have HB := n0_; have BK294 := n1_; have GW294 := n2_; have GE294 := n3_; clear n0_ n1_ n2_ n3_; clear hb hbox hg; have hcz56_0 : w55.cell? ⟨gb294, 0, none⟩ = some (.int .i64 a0_0) := (blk_cell BK294.out 0).trans rfl; have hcz56_1 : w55.cell? ⟨gb294, 1, none⟩ = some (.int .i64 a0_1) := (blk_cell BK294.out 1).trans rfl; have hcz56_2 : w55.cell? ⟨gb294, 2, none⟩ = some (.int .i64 a0_2) := (blk_cell BK294.out 2).trans rfl; have hcz56_3 : w55.cell? ⟨gb294, 3, none⟩ = some (.int .i64 a0_3) := (blk_cell BK294.out 3).trans rfl; have hcz56_4 : w55.cell? ⟨gb294, 4, none⟩ = some (.int .i64 a0_4) := (blk_cell BK294.out 4).trans rfl; have hfz56_0 := blk_frozen BK294.out 0; have hfz56_1 := blk_frozen BK294.out 1; have hfz56_2 := blk_frozen BK294.out 2; have hfz56_3 := blk_frozen BK294.out 3; have hfz56_4 := blk_frozen BK294.out 4) | ((with_reducible refine gate_callee (f := 34) rfl ?_); refine goesL_ (some 5) rfl rfl Try.func34 (by kernel_rfl) rfl #[.int .i64 a0_0] rfl (by (try simp only [List.map_toArray, List.map_cons, List.map_nil]); first | done | rfl | (simp only [List.length_drop, List.length_take]; rfl)) ?_; (with_reducible refine (spliceref02_three.calls a0_0 false _ A2.out).mono ?_); rintro e w' ⟨rfl, ⟨nd, rfl⟩⟩; refine ⟨_, rfl, ?_⟩) | ((with_reducible refine gate_callee (f := 35) rfl ?_); refine goesL_ (some 29) rfl rfl Try.func35 (by kernel_rfl) rfl #[.int .i64 a0_0] rfl (by (try simp only [List.map_toArray, List.map_cons, List.map_nil]); first | done | rfl | (simp only [List.length_drop, List.length_take]; rfl)) ?_; (with_reducible refine (spliceref02_near.calls a0_0 false _ A19.out).mono ?_); rintro e w' ⟨rfl, ⟨nd, rfl⟩⟩; refine ⟨_, rfl, ?_⟩) | ((with_reducible refine gate_callee (f := 36) rfl ?_); refine goesL_ (some 71) rfl rfl Try.func36 (by kernel_rfl) rfl #[.int .i64 a0_0] rfl (by (try simp only [List.map_toArray, List.map_cons, List.map_nil]); first | done | rfl | (simp only [List.length_drop, List.length_take]; rfl)) ?_; (with_reducible refine (spliceref02_branch.calls a0_0 true _ A48.out).mono ?_); rintro e w' ⟨rfl, ⟨nd, rfl⟩⟩; refine ⟨_, rfl, ?_⟩) | ((with_reducible refine gate_callee (f := 51) rfl ?_); refine goesL_ (some 74) rfl rfl Try.func51 (by kernel_rfl) rfl #[.int .i64 a0_1] rfl (by (try simp only [List.map_toArray, List.map_cons, List.map_nil]); first | done | rfl | (simp only [List.length_drop, List.length_take]; rfl)) ?_; (with_reducible refine (spliceref02_reg.calls a0_1 true _ A50.out).mono ?_); rintro e w' ⟨rfl, ⟨nd, rfl⟩⟩; refine ⟨_, rfl, ?_⟩) | (go_at_call 51; (with_reducible refine (spliceref02_reg.calls a0_2 true _ A52.out).mono ?_); rintro e w' ⟨rfl, ⟨nd, rfl⟩⟩))
         go_ret
         exact ⟨by first | rfl | (simp [errW_none, errW_some] <;> rfl) | (simp [*, errW_none, errW_some] <;> rfl), by repeat (first | (with_reducible first | exact HB.out | apply below_alloc | apply pw_below_drewN | apply below_drew1 | refine below_set ?_ GE294.out) | exact HB.out)⟩
        ·
         rw [if_neg c54] at H
         have c54b0 : decide ((-128) ≤ a0_4) = false := decide_eq_false c54
         clear c54
         obtain rfl := Option.some.inj H
         go_enter Try.func37, Try.ntmps37
         go_wp2_with (first | ((with_reducible refine gate_dst (N := 1) rfl ?_); refine box_event ?hg (N := 1) ?hd (cs := #[.int .i64 a0_0, .int .i64 a0_1, .int .i64 a0_2, .int .i64 a0_3, .int .i64 a0_4]) (t := 40) ?hr ?_; (case hd => rfl); (case hg => rfl); (case hr => first | (go_simp; done) | (go_simp; rfl)); intro gb294 hg w57 hbox hb; have n0_ := Aside0.mk (below_step (by repeat (first | (with_reducible first | exact HB.out | apply below_alloc | apply pw_below_drewN | apply below_drew1) | exact HB.out)) hb); have n1_ := Aside0.mk (hbox); have n2_ := Aside0.mk ((by rw [hg]; exact (below_size (by repeat (first | (with_reducible first | exact HB.out | apply below_alloc | apply pw_below_drewN | apply below_drew1) | exact HB.out))) : w.heap.size ≤ gb294)); have n3_ := Aside0.mk ((by rw [hg]; exact (below_size (by repeat (first | (with_reducible first | exact HB.out | apply below_alloc | apply pw_below_drewN | apply below_drew1) | exact HB.out))) : w.heap.size ≤ gb294)); clear HB; have HB := n0_; have BK294 := n1_; have GW294 := n2_; have GE294 := n3_; clear n0_ n1_ n2_ n3_; clear hb hbox hg; have hcz58_0 : w57.cell? ⟨gb294, 0, none⟩ = some (.int .i64 a0_0) := (blk_cell BK294.out 0).trans rfl; have hcz58_1 : w57.cell? ⟨gb294, 1, none⟩ = some (.int .i64 a0_1) := (blk_cell BK294.out 1).trans rfl; have hcz58_2 : w57.cell? ⟨gb294, 2, none⟩ = some (.int .i64 a0_2) := (blk_cell BK294.out 2).trans rfl; have hcz58_3 : w57.cell? ⟨gb294, 3, none⟩ = some (.int .i64 a0_3) := (blk_cell BK294.out 3).trans rfl; have hcz58_4 : w57.cell? ⟨gb294, 4, none⟩ = some (.int .i64 a0_4) := (blk_cell BK294.out 4).trans rfl; have hfz58_0 := blk_frozen BK294.out 0; have hfz58_1 := blk_frozen BK294.out 1; have hfz58_2 := blk_frozen BK294.out 2; have hfz58_3 := blk_frozen BK294.out 3; have hfz58_4 := blk_frozen BK294.out 4) | ((with_reducible refine gate_callee (f := 34) rfl ?_); refine goesL_ (some 5) rfl rfl Try.func34 (by kernel_rfl) rfl #[.int .i64 a0_0] rfl (by (try simp only [List.map_toArray, List.map_cons, List.map_nil]); first | done | rfl | (simp only [List.length_drop, List.length_take]; rfl)) ?_; (with_reducible refine (spliceref02_three.calls a0_0 false _ A2.out).mono ?_); rintro e w' ⟨rfl, ⟨nd, rfl⟩⟩; refine ⟨_, rfl, ?_⟩) | ((with_reducible refine gate_callee (f := 35) rfl ?_); refine goesL_ (some 29) rfl rfl Try.func35 (by kernel_rfl) rfl #[.int .i64 a0_0] rfl (by (try simp only [List.map_toArray, List.map_cons, List.map_nil]); first | done | rfl | (simp only [List.length_drop, List.length_take]; rfl)) ?_; (with_reducible refine (spliceref02_near.calls a0_0 false _ A19.out).mono ?_); rintro e w' ⟨rfl, ⟨nd, rfl⟩⟩; refine ⟨_, rfl, ?_⟩) | ((with_reducible refine gate_callee (f := 36) rfl ?_); refine goesL_ (some 71) rfl rfl Try.func36 (by kernel_rfl) rfl #[.int .i64 a0_0] rfl (by (try simp only [List.map_toArray, List.map_cons, List.map_nil]); first | done | rfl | (simp only [List.length_drop, List.length_take]; rfl)) ?_; (with_reducible refine (spliceref02_branch.calls a0_0 true _ A48.out).mono ?_); rintro e w' ⟨rfl, ⟨nd, rfl⟩⟩; refine ⟨_, rfl, ?_⟩) | ((with_reducible refine gate_callee (f := 51) rfl ?_); refine goesL_ (some 74) rfl rfl Try.func51 (by kernel_rfl) rfl #[.int .i64 a0_1] rfl (by (try simp only [List.map_toArray, List.map_cons, List.map_nil]); first | done | rfl | (simp only [List.length_drop, List.length_take]; rfl)) ?_; (with_reducible refine (spliceref02_reg.calls a0_1 true _ A50.out).mono ?_); rintro e w' ⟨rfl, ⟨nd, rfl⟩⟩; refine ⟨_, rfl, ?_⟩) | (go_at_call 51; (with_reducible refine (spliceref02_reg.calls a0_2 true _ A52.out).mono ?_); rintro e w' ⟨rfl, ⟨nd, rfl⟩⟩))
         go_ret
         exact ⟨by first | rfl | (simp [errW_none, errW_some] <;> rfl) | (simp [*, errW_none, errW_some] <;> rfl), by repeat (first | (with_reducible first | exact HB.out | apply below_alloc | apply pw_below_drewN | apply below_drew1 | refine below_set ?_ GE294.out) | exact HB.out)⟩
       ·
        replace c53 := Bool.eq_false_iff.mpr c53
        subst c53
        have H1 : (some false) = some r := by rw [if_neg (show ¬ (false = true) by decide)] at H; exact H
        clear H
        have H := H1
        clear H1
        obtain rfl := Option.some.inj H
        go_enter Try.func37, Try.ntmps37
        go_wp2_with (first | ((with_reducible refine gate_dst (N := 1) rfl ?_); refine box_event ?hg (N := 1) ?hd (cs := #[.int .i64 a0_0, .int .i64 a0_1, .int .i64 a0_2, .int .i64 a0_3, .int .i64 a0_4]) (t := 40) ?hr ?_; (case hd => rfl); (case hg => rfl); (case hr => first | (go_simp; done) | (go_simp; rfl)); intro gb294 hg w59 hbox hb; have n0_ := Aside0.mk (below_step (by repeat (first | (with_reducible first | exact HB.out | apply below_alloc | apply pw_below_drewN | apply below_drew1) | exact HB.out)) hb); have n1_ := Aside0.mk (hbox); have n2_ := Aside0.mk ((by rw [hg]; exact (below_size (by repeat (first | (with_reducible first | exact HB.out | apply below_alloc | apply pw_below_drewN | apply below_drew1) | exact HB.out))) : w.heap.size ≤ gb294)); have n3_ := Aside0.mk ((by rw [hg]; exact (below_size (by repeat (first | (with_reducible first | exact HB.out | apply below_alloc | apply pw_below_drewN | apply below_drew1) | exact HB.out))) : w.heap.size ≤ gb294)); clear HB; have HB := n0_; have BK294 := n1_; have GW294 := n2_; have GE294 := n3_; clear n0_ n1_ n2_ n3_; clear hb hbox hg; have hcz60_0 : w59.cell? ⟨gb294, 0, none⟩ = some (.int .i64 a0_0) := (blk_cell BK294.out 0).trans rfl; have hcz60_1 : w59.cell? ⟨gb294, 1, none⟩ = some (.int .i64 a0_1) := (blk_cell BK294.out 1).trans rfl; have hcz60_2 : w59.cell? ⟨gb294, 2, none⟩ = some (.int .i64 a0_2) := (blk_cell BK294.out 2).trans rfl; have hcz60_3 : w59.cell? ⟨gb294, 3, none⟩ = some (.int .i64 a0_3) := (blk_cell BK294.out 3).trans rfl; have hcz60_4 : w59.cell? ⟨gb294, 4, none⟩ = some (.int .i64 a0_4) := (blk_cell BK294.out 4).trans rfl; have hfz60_0 := blk_frozen BK294.out 0; have hfz60_1 := blk_frozen BK294.out 1; have hfz60_2 := blk_frozen BK294.out 2; have hfz60_3 := blk_frozen BK294.out 3; have hfz60_4 := blk_frozen BK294.out 4) | ((with_reducible refine gate_callee (f := 34) rfl ?_); refine goesL_ (some 5) rfl rfl Try.func34 (by kernel_rfl) rfl #[.int .i64 a0_0] rfl (by (try simp only [List.map_toArray, List.map_cons, List.map_nil]); first | done | rfl | (simp only [List.length_drop, List.length_take]; rfl)) ?_; (with_reducible refine (spliceref02_three.calls a0_0 false _ A2.out).mono ?_); rintro e w' ⟨rfl, ⟨nd, rfl⟩⟩; refine ⟨_, rfl, ?_⟩) | ((with_reducible refine gate_callee (f := 35) rfl ?_); refine goesL_ (some 29) rfl rfl Try.func35 (by kernel_rfl) rfl #[.int .i64 a0_0] rfl (by (try simp only [List.map_toArray, List.map_cons, List.map_nil]); first | done | rfl | (simp only [List.length_drop, List.length_take]; rfl)) ?_; (with_reducible refine (spliceref02_near.calls a0_0 false _ A19.out).mono ?_); rintro e w' ⟨rfl, ⟨nd, rfl⟩⟩; refine ⟨_, rfl, ?_⟩) | ((with_reducible refine gate_callee (f := 36) rfl ?_); refine goesL_ (some 71) rfl rfl Try.func36 (by kernel_rfl) rfl #[.int .i64 a0_0] rfl (by (try simp only [List.map_toArray, List.map_cons, List.map_nil]); first | done | rfl | (simp only [List.length_drop, List.length_take]; rfl)) ?_; (with_reducible refine (spliceref02_branch.calls a0_0 true _ A48.out).mono ?_); rintro e w' ⟨rfl, ⟨nd, rfl⟩⟩; refine ⟨_, rfl, ?_⟩) | ((with_reducible refine gate_callee (f := 51) rfl ?_); refine goesL_ (some 74) rfl rfl Try.func51 (by kernel_rfl) rfl #[.int .i64 a0_1] rfl (by (try simp only [List.map_toArray, List.map_cons, List.map_nil]); first | done | rfl | (simp only [List.length_drop, List.length_take]; rfl)) ?_; (with_reducible refine (spliceref02_reg.calls a0_1 true _ A50.out).mono ?_); rintro e w' ⟨rfl, ⟨nd, rfl⟩⟩; refine ⟨_, rfl, ?_⟩) | (go_at_call 51; (with_reducible refine (spliceref02_reg.calls a0_2 false _ A52.out).mono ?_); rintro e w' ⟨rfl, ⟨nd, rfl⟩⟩))
        go_ret
        exact ⟨by first | rfl | (simp [errW_none, errW_some] <;> rfl) | (simp [*, errW_none, errW_some] <;> rfl), by repeat (first | (with_reducible first | exact HB.out | apply below_alloc | apply pw_below_drewN | apply below_drew1 | refine below_set ?_ GE294.out) | exact HB.out)⟩
      ·
       replace c51 := Bool.eq_false_iff.mpr c51
       subst c51
       have H1 : (some false) = some r := by rw [if_neg (show ¬ (false = true) by decide)] at H; exact H
       clear H
       have H := H1
       clear H1
       obtain rfl := Option.some.inj H
       go_enter Try.func37, Try.ntmps37
       go_wp2_with (first | ((with_reducible refine gate_dst (N := 1) rfl ?_); refine box_event ?hg (N := 1) ?hd (cs := #[.int .i64 a0_0, .int .i64 a0_1, .int .i64 a0_2, .int .i64 a0_3, .int .i64 a0_4]) (t := 40) ?hr ?_; (case hd => rfl); (case hg => rfl); (case hr => first | (go_simp; done) | (go_simp; rfl)); intro gb294 hg w61 hbox hb; have n0_ := Aside0.mk (below_step (by repeat (first | (with_reducible first | exact HB.out | apply below_alloc | apply pw_below_drewN | apply below_drew1) | exact HB.out)) hb); have n1_ := Aside0.mk (hbox); have n2_ := Aside0.mk ((by rw [hg]; exact (below_size (by repeat (first | (with_reducible first | exact HB.out | apply below_alloc | apply pw_below_drewN | apply below_drew1) | exact HB.out))) : w.heap.size ≤ gb294)); have n3_ := Aside0.mk ((by rw [hg]; exact (below_size (by repeat (first | (with_reducible first | exact HB.out | apply below_alloc | apply pw_below_drewN | apply below_drew1) | exact HB.out))) : w.heap.size ≤ gb294)); clear HB; have HB := n0_; have BK294 := n1_; have GW294 := n2_; have GE294 := n3_; clear n0_ n1_ n2_ n3_; clear hb hbox hg; have hcz62_0 : w61.cell? ⟨gb294, 0, none⟩ = some (.int .i64 a0_0) := (blk_cell BK294.out 0).trans rfl; have hcz62_1 : w61.cell? ⟨gb294, 1, none⟩ = some (.int .i64 a0_1) := (blk_cell BK294.out 1).trans rfl; have hcz62_2 : w61.cell? ⟨gb294, 2, none⟩ = some (.int .i64 a0_2) := (blk_cell BK294.out 2).trans rfl; have hcz62_3 : w61.cell? ⟨gb294, 3, none⟩ = some (.int .i64 a0_3) := (blk_cell BK294.out 3).trans rfl; have hcz62_4 : w61.cell? ⟨gb294, 4, none⟩ = some (.int .i64 a0_4) := (blk_cell BK294.out 4).trans rfl; have hfz62_0 := blk_frozen BK294.out 0; have hfz62_1 := blk_frozen BK294.out 1; have hfz62_2 := blk_frozen BK294.out 2; have hfz62_3 := blk_frozen BK294.out 3; have hfz62_4 := blk_frozen BK294.out 4) | ((with_reducible refine gate_callee (f := 34) rfl ?_); refine goesL_ (some 5) rfl rfl Try.func34 (by kernel_rfl) rfl #[.int .i64 a0_0] rfl (by (try simp only [List.map_toArray, List.map_cons, List.map_nil]); first | done | rfl | (simp only [List.length_drop, List.length_take]; rfl)) ?_; (with_reducible refine (spliceref02_three.calls a0_0 false _ A2.out).mono ?_); rintro e w' ⟨rfl, ⟨nd, rfl⟩⟩; refine ⟨_, rfl, ?_⟩) | ((with_reducible refine gate_callee (f := 35) rfl ?_); refine goesL_ (some 29) rfl rfl Try.func35 (by kernel_rfl) rfl #[.int .i64 a0_0] rfl (by (try simp only [List.map_toArray, List.map_cons, List.map_nil]); first | done | rfl | (simp only [List.length_drop, List.length_take]; rfl)) ?_; (with_reducible refine (spliceref02_near.calls a0_0 false _ A19.out).mono ?_); rintro e w' ⟨rfl, ⟨nd, rfl⟩⟩; refine ⟨_, rfl, ?_⟩) | ((with_reducible refine gate_callee (f := 36) rfl ?_); refine goesL_ (some 71) rfl rfl Try.func36 (by kernel_rfl) rfl #[.int .i64 a0_0] rfl (by (try simp only [List.map_toArray, List.map_cons, List.map_nil]); first | done | rfl | (simp only [List.length_drop, List.length_take]; rfl)) ?_; (with_reducible refine (spliceref02_branch.calls a0_0 true _ A48.out).mono ?_); rintro e w' ⟨rfl, ⟨nd, rfl⟩⟩; refine ⟨_, rfl, ?_⟩) | ((with_reducible refine gate_callee (f := 51) rfl ?_); refine goesL_ (some 74) rfl rfl Try.func51 (by kernel_rfl) rfl #[.int .i64 a0_1] rfl (by (try simp only [List.map_toArray, List.map_cons, List.map_nil]); first | done | rfl | (simp only [List.length_drop, List.length_take]; rfl)) ?_; (with_reducible refine (spliceref02_reg.calls a0_1 false _ A50.out).mono ?_); rintro e w' ⟨rfl, ⟨nd, rfl⟩⟩; refine ⟨_, rfl, ?_⟩))
       go_ret
       exact ⟨by first | rfl | (simp [errW_none, errW_some] <;> rfl) | (simp [*, errW_none, errW_some] <;> rfl), by repeat (first | (with_reducible first | exact HB.out | apply below_alloc | apply pw_below_drewN | apply below_drew1 | refine below_set ?_ GE294.out) | exact HB.out)⟩
     ·
      replace c49 := Bool.eq_false_iff.mpr c49
      subst c49
      have H1 : (if a0_2 = 0 then (if a0_0 = 9 then ((spliceref02_reg.f a0_1).bind fun t307 => (if t307 = true then (if a0_4 ≥ 0 then (some (decide (a0_4 ≤ 65535))) else (some false)) else (some false))) else ((spliceref02_one.f a0_0).bind fun t308 => (if t308 = true then ((spliceref02_reg.f a0_1).bind fun t309 => (if t309 = true then (some (a0_4 == 0)) else (some false))) else ((spliceref02_far.f a0_0).bind fun t310 => (if t310 = true then (if a0_1 = 0 then (if a0_4 ≥ (-8388608) then (some (decide (a0_4 ≤ 8388607))) else (some false)) else (some false)) else (if a0_0 = 21 then (if a0_1 = 0 then (some (a0_4 == 0)) else (some false)) else (if a0_0 = 24 then (if a0_1 = 0 then (some (a0_4 == 0)) else (some false)) else (if a0_0 = 25 then (if a0_1 = 0 then (some (a0_4 == 0)) else (some false)) else (some false))))))))) else (some false)) = some r := by rw [if_neg (show ¬ (false = true) by decide)] at H; exact H
      clear H
      have H := H1
      clear H1
      by_cases c63 : a0_2 = 0
      ·
       rw [if_pos c63] at H
       have c63b0 : (a0_2 == 0) = true := beq_iff_eq.mpr c63
       have c63b1 : (a0_2 != 0) = false := bne_eq_false_iff_eq.mpr c63
       clear c63
       by_cases c64 : a0_0 = 9
       ·
        rw [if_pos c64] at H
        have c64b0 : (a0_0 == 9) = true := beq_iff_eq.mpr c64
        have c64b1 : (a0_0 != 9) = false := bne_eq_false_iff_eq.mpr c64
        clear c64
        replace H := Option.bind_eq_some_iff.mp H
        obtain ⟨t307, A650, H⟩ := H
        replace H : (if t307 = true then (if a0_4 ≥ 0 then (some (decide (a0_4 ≤ 65535))) else (some false)) else (some false)) = some r := H
        have A65 := Aside0.mk A650
        clear A650
        by_cases c66 : t307 = true
        ·
         subst c66
         have H1 : (if a0_4 ≥ 0 then (some (decide (a0_4 ≤ 65535))) else (some false)) = some r := by rw [if_pos rfl] at H; exact H
         clear H
         have H := H1
         clear H1
         by_cases c67 : a0_4 ≥ 0
         ·
          rw [if_pos c67] at H
          have c67b0 : decide (0 ≤ a0_4) = true := decide_eq_true c67
          clear c67
          obtain rfl := Option.some.inj H
          go_enter Try.func37, Try.ntmps37
          go_wp2_with (first | ((with_reducible refine gate_dst (N := 1) rfl ?_); refine box_event ?hg (N := 1) ?hd (cs := #[.int .i64 a0_0, .int .i64 a0_1, .int .i64 a0_2, .int .i64 a0_3, .int .i64 a0_4]) (t := 40) ?hr ?_; (case hd => rfl); (case hg => rfl); (case hr => first | (go_simp; done) | (go_simp; rfl)); intro gb294 hg w68 hbox hb; have n0_ := Aside0.mk (below_step (by repeat (first | (with_reducible first | exact HB.out | apply below_alloc | apply pw_below_drewN | apply below_drew1) | exact HB.out)) hb); have n1_ := Aside0.mk (hbox); have n2_ := Aside0.mk ((by rw [hg]; exact (below_size (by repeat (first | (with_reducible first | exact HB.out | apply below_alloc | apply pw_below_drewN | apply below_drew1) | exact HB.out))) : w.heap.size ≤ gb294)); have n3_ := Aside0.mk ((by rw [hg]; exact (below_size (by repeat (first | (with_reducible first | exact HB.out | apply below_alloc | apply pw_below_drewN | apply below_drew1) | exact HB.out))) : w.heap.size ≤ gb294)); clear HB; have HB := n0_; have BK294 := n1_; have GW294 := n2_; have GE294 := n3_; clear n0_ n1_ n2_ n3_; clear hb hbox hg; have hcz69_0 : w68.cell? ⟨gb294, 0, none⟩ = some (.int .i64 a0_0) := (blk_cell BK294.out 0).trans rfl; have hcz69_1 : w68.cell? ⟨gb294, 1, none⟩ = some (.int .i64 a0_1) := (blk_cell BK294.out 1).trans rfl; have hcz69_2 : w68.cell? ⟨gb294, 2, none⟩ = some (.int .i64 a0_2) := (blk_cell BK294.out 2).trans rfl; have hcz69_3 : w68.cell? ⟨gb294, 3, none⟩ = some (.int .i64 a0_3) := (blk_cell BK294.out 3).trans rfl; have hcz69_4 : w68.cell? ⟨gb294, 4, none⟩ = some (.int .i64 a0_4) := (blk_cell BK294.out 4).trans rfl; have hfz69_0 := blk_frozen BK294.out 0; have hfz69_1 := blk_frozen BK294.out 1; have hfz69_2 := blk_frozen BK294.out 2; have hfz69_3 := blk_frozen BK294.out 3; have hfz69_4 := blk_frozen BK294.out 4) | ((with_reducible refine gate_callee (f := 34) rfl ?_); refine goesL_ (some 5) rfl rfl Try.func34 (by kernel_rfl) rfl #[.int .i64 a0_0] rfl (by (try simp only [List.map_toArray, List.map_cons, List.map_nil]); first | done | rfl | (simp only [List.length_drop, List.length_take]; rfl)) ?_; (with_reducible refine (spliceref02_three.calls a0_0 false _ A2.out).mono ?_); rintro e w' ⟨rfl, ⟨nd, rfl⟩⟩; refine ⟨_, rfl, ?_⟩) | ((with_reducible refine gate_callee (f := 35) rfl ?_); refine goesL_ (some 29) rfl rfl Try.func35 (by kernel_rfl) rfl #[.int .i64 a0_0] rfl (by (try simp only [List.map_toArray, List.map_cons, List.map_nil]); first | done | rfl | (simp only [List.length_drop, List.length_take]; rfl)) ?_; (with_reducible refine (spliceref02_near.calls a0_0 false _ A19.out).mono ?_); rintro e w' ⟨rfl, ⟨nd, rfl⟩⟩; refine ⟨_, rfl, ?_⟩) | ((with_reducible refine gate_callee (f := 36) rfl ?_); refine goesL_ (some 71) rfl rfl Try.func36 (by kernel_rfl) rfl #[.int .i64 a0_0] rfl (by (try simp only [List.map_toArray, List.map_cons, List.map_nil]); first | done | rfl | (simp only [List.length_drop, List.length_take]; rfl)) ?_; (with_reducible refine (spliceref02_branch.calls a0_0 false _ A48.out).mono ?_); rintro e w' ⟨rfl, ⟨nd, rfl⟩⟩; refine ⟨_, rfl, ?_⟩) | ((with_reducible refine gate_callee (f := 51) rfl ?_); refine goesL_ (some 98) rfl rfl Try.func51 (by kernel_rfl) rfl #[.int .i64 a0_1] rfl (by (try simp only [List.map_toArray, List.map_cons, List.map_nil]); first | done | rfl | (simp only [List.length_drop, List.length_take]; rfl)) ?_; (with_reducible refine (spliceref02_reg.calls a0_1 true _ A65.out).mono ?_); rintro e w' ⟨rfl, ⟨nd, rfl⟩⟩; refine ⟨_, rfl, ?_⟩))
          go_ret
          exact ⟨by first | rfl | (simp [errW_none, errW_some] <;> rfl) | (simp [*, errW_none, errW_some] <;> rfl), by repeat (first | (with_reducible first | exact HB.out | apply below_alloc | apply pw_below_drewN | apply below_drew1 | refine below_set ?_ GE294.out) | exact HB.out)⟩
         ·
          rw [if_neg c67] at H
          have c67b0 : decide (0 ≤ a0_4) = false := decide_eq_false c67
          clear c67
          obtain rfl := Option.some.inj H
          go_enter Try.func37, Try.ntmps37
          go_wp2_with (first | ((with_reducible refine gate_dst (N := 1) rfl ?_); refine box_event ?hg (N := 1) ?hd (cs := #[.int .i64 a0_0, .int .i64 a0_1, .int .i64 a0_2, .int .i64 a0_3, .int .i64 a0_4]) (t := 40) ?hr ?_; (case hd => rfl); (case hg => rfl); (case hr => first | (go_simp; done) | (go_simp; rfl)); intro gb294 hg w70 hbox hb; have n0_ := Aside0.mk (below_step (by repeat (first | (with_reducible first | exact HB.out | apply below_alloc | apply pw_below_drewN | apply below_drew1) | exact HB.out)) hb); have n1_ := Aside0.mk (hbox); have n2_ := Aside0.mk ((by rw [hg]; exact (below_size (by repeat (first | (with_reducible first | exact HB.out | apply below_alloc | apply pw_below_drewN | apply below_drew1) | exact HB.out))) : w.heap.size ≤ gb294)); have n3_ := Aside0.mk ((by rw [hg]; exact (below_size (by repeat (first | (with_reducible first | exact HB.out | apply below_alloc | apply pw_below_drewN | apply below_drew1) | exact HB.out))) : w.heap.size ≤ gb294)); clear HB; have HB := n0_; have BK294 := n1_; have GW294 := n2_; have GE294 := n3_; clear n0_ n1_ n2_ n3_; clear hb hbox hg; have hcz71_0 : w70.cell? ⟨gb294, 0, none⟩ = some (.int .i64 a0_0) := (blk_cell BK294.out 0).trans rfl; have hcz71_1 : w70.cell? ⟨gb294, 1, none⟩ = some (.int .i64 a0_1) := (blk_cell BK294.out 1).trans rfl; have hcz71_2 : w70.cell? ⟨gb294, 2, none⟩ = some (.int .i64 a0_2) := (blk_cell BK294.out 2).trans rfl; have hcz71_3 : w70.cell? ⟨gb294, 3, none⟩ = some (.int .i64 a0_3) := (blk_cell BK294.out 3).trans rfl; have hcz71_4 : w70.cell? ⟨gb294, 4, none⟩ = some (.int .i64 a0_4) := (blk_cell BK294.out 4).trans rfl; have hfz71_0 := blk_frozen BK294.out 0; have hfz71_1 := blk_frozen BK294.out 1; have hfz71_2 := blk_frozen BK294.out 2; have hfz71_3 := blk_frozen BK294.out 3; have hfz71_4 := blk_frozen BK294.out 4) | ((with_reducible refine gate_callee (f := 34) rfl ?_); refine goesL_ (some 5) rfl rfl Try.func34 (by kernel_rfl) rfl #[.int .i64 a0_0] rfl (by (try simp only [List.map_toArray, List.map_cons, List.map_nil]); first | done | rfl | (simp only [List.length_drop, List.length_take]; rfl)) ?_; (with_reducible refine (spliceref02_three.calls a0_0 false _ A2.out).mono ?_); rintro e w' ⟨rfl, ⟨nd, rfl⟩⟩; refine ⟨_, rfl, ?_⟩) | ((with_reducible refine gate_callee (f := 35) rfl ?_); refine goesL_ (some 29) rfl rfl Try.func35 (by kernel_rfl) rfl #[.int .i64 a0_0] rfl (by (try simp only [List.map_toArray, List.map_cons, List.map_nil]); first | done | rfl | (simp only [List.length_drop, List.length_take]; rfl)) ?_; (with_reducible refine (spliceref02_near.calls a0_0 false _ A19.out).mono ?_); rintro e w' ⟨rfl, ⟨nd, rfl⟩⟩; refine ⟨_, rfl, ?_⟩) | ((with_reducible refine gate_callee (f := 36) rfl ?_); refine goesL_ (some 71) rfl rfl Try.func36 (by kernel_rfl) rfl #[.int .i64 a0_0] rfl (by (try simp only [List.map_toArray, List.map_cons, List.map_nil]); first | done | rfl | (simp only [List.length_drop, List.length_take]; rfl)) ?_; (with_reducible refine (spliceref02_branch.calls a0_0 false _ A48.out).mono ?_); rintro e w' ⟨rfl, ⟨nd, rfl⟩⟩; refine ⟨_, rfl, ?_⟩) | ((with_reducible refine gate_callee (f := 51) rfl ?_); refine goesL_ (some 98) rfl rfl Try.func51 (by kernel_rfl) rfl #[.int .i64 a0_1] rfl (by (try simp only [List.map_toArray, List.map_cons, List.map_nil]); first | done | rfl | (simp only [List.length_drop, List.length_take]; rfl)) ?_; (with_reducible refine (spliceref02_reg.calls a0_1 true _ A65.out).mono ?_); rintro e w' ⟨rfl, ⟨nd, rfl⟩⟩; refine ⟨_, rfl, ?_⟩))
          go_ret
          exact ⟨by first | rfl | (simp [errW_none, errW_some] <;> rfl) | (simp [*, errW_none, errW_some] <;> rfl), by repeat (first | (with_reducible first | exact HB.out | apply below_alloc | apply pw_below_drewN | apply below_drew1 | refine below_set ?_ GE294.out) | exact HB.out)⟩
        ·
         replace c66 := Bool.eq_false_iff.mpr c66
         subst c66
         have H1 : (some false) = some r := by rw [if_neg (show ¬ (false = true) by decide)] at H; exact H
         clear H
         have H := H1
         clear H1
         obtain rfl := Option.some.inj H
         go_enter Try.func37, Try.ntmps37
         go_wp2_with (first | ((with_reducible refine gate_dst (N := 1) rfl ?_); refine box_event ?hg (N := 1) ?hd (cs := #[.int .i64 a0_0, .int .i64 a0_1, .int .i64 a0_2, .int .i64 a0_3, .int .i64 a0_4]) (t := 40) ?hr ?_; (case hd => rfl); (case hg => rfl); (case hr => first | (go_simp; done) | (go_simp; rfl)); intro gb294 hg w72 hbox hb; have n0_ := Aside0.mk (below_step (by repeat (first | (with_reducible first | exact HB.out | apply below_alloc | apply pw_below_drewN | apply below_drew1) | exact HB.out)) hb); have n1_ := Aside0.mk (hbox); have n2_ := Aside0.mk ((by rw [hg]; exact (below_size (by repeat (first | (with_reducible first | exact HB.out | apply below_alloc | apply pw_below_drewN | apply below_drew1) | exact HB.out))) : w.heap.size ≤ gb294)); have n3_ := Aside0.mk ((by rw [hg]; exact (below_size (by repeat (first | (with_reducible first | exact HB.out | apply below_alloc | apply pw_below_drewN | apply below_drew1) | exact HB.out))) : w.heap.size ≤ gb294)); clear HB; have HB := n0_; have BK294 := n1_; have GW294 := n2_; have GE294 := n3_; clear n0_ n1_ n2_ n3_; clear hb hbox hg; have hcz73_0 : w72.cell? ⟨gb294, 0, none⟩ = some (.int .i64 a0_0) := (blk_cell BK294.out 0).trans rfl; have hcz73_1 : w72.cell? ⟨gb294, 1, none⟩ = some (.int .i64 a0_1) := (blk_cell BK294.out 1).trans rfl; have hcz73_2 : w72.cell? ⟨gb294, 2, none⟩ = some (.int .i64 a0_2) := (blk_cell BK294.out 2).trans rfl; have hcz73_3 : w72.cell? ⟨gb294, 3, none⟩ = some (.int .i64 a0_3) := (blk_cell BK294.out 3).trans rfl; have hcz73_4 : w72.cell? ⟨gb294, 4, none⟩ = some (.int .i64 a0_4) := (blk_cell BK294.out 4).trans rfl; have hfz73_0 := blk_frozen BK294.out 0; have hfz73_1 := blk_frozen BK294.out 1; have hfz73_2 := blk_frozen BK294.out 2; have hfz73_3 := blk_frozen BK294.out 3; have hfz73_4 := blk_frozen BK294.out 4) | ((with_reducible refine gate_callee (f := 34) rfl ?_); refine goesL_ (some 5) rfl rfl Try.func34 (by kernel_rfl) rfl #[.int .i64 a0_0] rfl (by (try simp only [List.map_toArray, List.map_cons, List.map_nil]); first | done | rfl | (simp only [List.length_drop, List.length_take]; rfl)) ?_; (with_reducible refine (spliceref02_three.calls a0_0 false _ A2.out).mono ?_); rintro e w' ⟨rfl, ⟨nd, rfl⟩⟩; refine ⟨_, rfl, ?_⟩) | ((with_reducible refine gate_callee (f := 35) rfl ?_); refine goesL_ (some 29) rfl rfl Try.func35 (by kernel_rfl) rfl #[.int .i64 a0_0] rfl (by (try simp only [List.map_toArray, List.map_cons, List.map_nil]); first | done | rfl | (simp only [List.length_drop, List.length_take]; rfl)) ?_; (with_reducible refine (spliceref02_near.calls a0_0 false _ A19.out).mono ?_); rintro e w' ⟨rfl, ⟨nd, rfl⟩⟩; refine ⟨_, rfl, ?_⟩) | ((with_reducible refine gate_callee (f := 36) rfl ?_); refine goesL_ (some 71) rfl rfl Try.func36 (by kernel_rfl) rfl #[.int .i64 a0_0] rfl (by (try simp only [List.map_toArray, List.map_cons, List.map_nil]); first | done | rfl | (simp only [List.length_drop, List.length_take]; rfl)) ?_; (with_reducible refine (spliceref02_branch.calls a0_0 false _ A48.out).mono ?_); rintro e w' ⟨rfl, ⟨nd, rfl⟩⟩; refine ⟨_, rfl, ?_⟩) | ((with_reducible refine gate_callee (f := 51) rfl ?_); refine goesL_ (some 98) rfl rfl Try.func51 (by kernel_rfl) rfl #[.int .i64 a0_1] rfl (by (try simp only [List.map_toArray, List.map_cons, List.map_nil]); first | done | rfl | (simp only [List.length_drop, List.length_take]; rfl)) ?_; (with_reducible refine (spliceref02_reg.calls a0_1 false _ A65.out).mono ?_); rintro e w' ⟨rfl, ⟨nd, rfl⟩⟩; refine ⟨_, rfl, ?_⟩))
         go_ret
         exact ⟨by first | rfl | (simp [errW_none, errW_some] <;> rfl) | (simp [*, errW_none, errW_some] <;> rfl), by repeat (first | (with_reducible first | exact HB.out | apply below_alloc | apply pw_below_drewN | apply below_drew1 | refine below_set ?_ GE294.out) | exact HB.out)⟩
       ·
        rw [if_neg c64] at H
        have c64b0 : (a0_0 == 9) = false := beq_eq_false_iff_ne.mpr c64
        have c64b1 : (a0_0 != 9) = true := bne_iff_ne.mpr c64
        replace H := Option.bind_eq_some_iff.mp H
        obtain ⟨t308, A740, H⟩ := H
        replace H : (if t308 = true then ((spliceref02_reg.f a0_1).bind fun t309 => (if t309 = true then (some (a0_4 == 0)) else (some false))) else ((spliceref02_far.f a0_0).bind fun t310 => (if t310 = true then (if a0_1 = 0 then (if a0_4 ≥ (-8388608) then (some (decide (a0_4 ≤ 8388607))) else (some false)) else (some false)) else (if a0_0 = 21 then (if a0_1 = 0 then (some (a0_4 == 0)) else (some false)) else (if a0_0 = 24 then (if a0_1 = 0 then (some (a0_4 == 0)) else (some false)) else (if a0_0 = 25 then (if a0_1 = 0 then (some (a0_4 == 0)) else (some false)) else (some false))))))) = some r := H
        have A74 := Aside0.mk A740
        clear A740
        by_cases c75 : t308 = true
        ·
         subst c75
         have H1 : ((spliceref02_reg.f a0_1).bind fun t309 => (if t309 = true then (some (a0_4 == 0)) else (some false))) = some r := by rw [if_pos rfl] at H; exact H
         clear H
         have H := H1
         clear H1
         replace H := Option.bind_eq_some_iff.mp H
         obtain ⟨t309, A760, H⟩ := H
         replace H : (if t309 = true then (some (a0_4 == 0)) else (some false)) = some r := H
         have A76 := Aside0.mk A760
         clear A760
         by_cases c77 : t309 = true
         ·
          subst c77
          have H1 : (some (a0_4 == 0)) = some r := by rw [if_pos rfl] at H; exact H
          clear H
          have H := H1
          clear H1
          obtain rfl := Option.some.inj H
          go_enter Try.func37, Try.ntmps37
          go_wp2_with (first | ((with_reducible refine gate_dst (N := 1) rfl ?_); refine box_event ?hg (N := 1) ?hd (cs := #[.int .i64 a0_0, .int .i64 a0_1, .int .i64 a0_2, .int .i64 a0_3, .int .i64 a0_4]) (t := 40) ?hr ?_; (case hd => rfl); (case hg => rfl); (case hr => first | (go_simp; done) | (go_simp; rfl)); intro gb294 hg w78 hbox hb; have n0_ := Aside0.mk (below_step (by repeat (first | (with_reducible first | exact HB.out | apply below_alloc | apply pw_below_drewN | apply below_drew1) | exact HB.out)) hb); have n1_ := Aside0.mk (hbox); have n2_ := Aside0.mk ((by rw [hg]; exact (below_size (by repeat (first | (with_reducible first | exact HB.out | apply below_alloc | apply pw_below_drewN | apply below_drew1) | exact HB.out))) : w.heap.size ≤ gb294)); have n3_ := Aside0.mk ((by rw [hg]; exact (below_size (by repeat (first | (with_reducible first | exact HB.out | apply below_alloc | apply pw_below_drewN | apply below_drew1) | exact HB.out))) : w.heap.size ≤ gb294)); clear HB; have HB := n0_; have BK294 := n1_; have GW294 := n2_; have GE294 := n3_; clear n0_ n1_ n2_ n3_; clear hb hbox hg; have hcz79_0 : w78.cell? ⟨gb294, 0, none⟩ = some (.int .i64 a0_0) := (blk_cell BK294.out 0).trans rfl; have hcz79_1 : w78.cell? ⟨gb294, 1, none⟩ = some (.int .i64 a0_1) := (blk_cell BK294.out 1).trans rfl; have hcz79_2 : w78.cell? ⟨gb294, 2, none⟩ = some (.int .i64 a0_2) := (blk_cell BK294.out 2).trans rfl; have hcz79_3 : w78.cell? ⟨gb294, 3, none⟩ = some (.int .i64 a0_3) := (blk_cell BK294.out 3).trans rfl; have hcz79_4 : w78.cell? ⟨gb294, 4, none⟩ = some (.int .i64 a0_4) := (blk_cell BK294.out 4).trans rfl; have hfz79_0 := blk_frozen BK294.out 0; have hfz79_1 := blk_frozen BK294.out 1; have hfz79_2 := blk_frozen BK294.out 2; have hfz79_3 := blk_frozen BK294.out 3; have hfz79_4 := blk_frozen BK294.out 4) | ((with_reducible refine gate_callee (f := 34) rfl ?_); refine goesL_ (some 5) rfl rfl Try.func34 (by kernel_rfl) rfl #[.int .i64 a0_0] rfl (by (try simp only [List.map_toArray, List.map_cons, List.map_nil]); first | done | rfl | (simp only [List.length_drop, List.length_take]; rfl)) ?_; (with_reducible refine (spliceref02_three.calls a0_0 false _ A2.out).mono ?_); rintro e w' ⟨rfl, ⟨nd, rfl⟩⟩; refine ⟨_, rfl, ?_⟩) | ((with_reducible refine gate_callee (f := 35) rfl ?_); refine goesL_ (some 29) rfl rfl Try.func35 (by kernel_rfl) rfl #[.int .i64 a0_0] rfl (by (try simp only [List.map_toArray, List.map_cons, List.map_nil]); first | done | rfl | (simp only [List.length_drop, List.length_take]; rfl)) ?_; (with_reducible refine (spliceref02_near.calls a0_0 false _ A19.out).mono ?_); rintro e w' ⟨rfl, ⟨nd, rfl⟩⟩; refine ⟨_, rfl, ?_⟩) | ((with_reducible refine gate_callee (f := 36) rfl ?_); refine goesL_ (some 71) rfl rfl Try.func36 (by kernel_rfl) rfl #[.int .i64 a0_0] rfl (by (try simp only [List.map_toArray, List.map_cons, List.map_nil]); first | done | rfl | (simp only [List.length_drop, List.length_take]; rfl)) ?_; (with_reducible refine (spliceref02_branch.calls a0_0 false _ A48.out).mono ?_); rintro e w' ⟨rfl, ⟨nd, rfl⟩⟩; refine ⟨_, rfl, ?_⟩) | ((with_reducible refine gate_callee (f := 52) rfl ?_); refine goesL_ (some 111) rfl rfl Try.func52 (by kernel_rfl) rfl #[.int .i64 a0_0] rfl (by (try simp only [List.map_toArray, List.map_cons, List.map_nil]); first | done | rfl | (simp only [List.length_drop, List.length_take]; rfl)) ?_; (with_reducible refine (spliceref02_one.calls a0_0 true _ A74.out).mono ?_); rintro e w' ⟨rfl, ⟨nd, rfl⟩⟩; refine ⟨_, rfl, ?_⟩) | ((with_reducible refine gate_callee (f := 51) rfl ?_); refine goesL_ (some 114) rfl rfl Try.func51 (by kernel_rfl) rfl #[.int .i64 a0_1] rfl (by (try simp only [List.map_toArray, List.map_cons, List.map_nil]); first | done | rfl | (simp only [List.length_drop, List.length_take]; rfl)) ?_; (with_reducible refine (spliceref02_reg.calls a0_1 true _ A76.out).mono ?_); rintro e w' ⟨rfl, ⟨nd, rfl⟩⟩; refine ⟨_, rfl, ?_⟩))
          go_ret
          exact ⟨by first | rfl | (simp [errW_none, errW_some] <;> rfl) | (simp [*, errW_none, errW_some] <;> rfl), by repeat (first | (with_reducible first | exact HB.out | apply below_alloc | apply pw_below_drewN | apply below_drew1 | refine below_set ?_ GE294.out) | exact HB.out)⟩
         ·
          replace c77 := Bool.eq_false_iff.mpr c77
          subst c77
          have H1 : (some false) = some r := by rw [if_neg (show ¬ (false = true) by decide)] at H; exact H
          clear H
          have H := H1
          clear H1
          obtain rfl := Option.some.inj H
          go_enter Try.func37, Try.ntmps37
          go_wp2_with (first | ((with_reducible refine gate_dst (N := 1) rfl ?_); refine box_event ?hg (N := 1) ?hd (cs := #[.int .i64 a0_0, .int .i64 a0_1, .int .i64 a0_2, .int .i64 a0_3, .int .i64 a0_4]) (t := 40) ?hr ?_; (case hd => rfl); (case hg => rfl); (case hr => first | (go_simp; done) | (go_simp; rfl)); intro gb294 hg w80 hbox hb; have n0_ := Aside0.mk (below_step (by repeat (first | (with_reducible first | exact HB.out | apply below_alloc | apply pw_below_drewN | apply below_drew1) | exact HB.out)) hb); have n1_ := Aside0.mk (hbox); have n2_ := Aside0.mk ((by rw [hg]; exact (below_size (by repeat (first | (with_reducible first | exact HB.out | apply below_alloc | apply pw_below_drewN | apply below_drew1) | exact HB.out))) : w.heap.size ≤ gb294)); have n3_ := Aside0.mk ((by rw [hg]; exact (below_size (by repeat (first | (with_reducible first | exact HB.out | apply below_alloc | apply pw_below_drewN | apply below_drew1) | exact HB.out))) : w.heap.size ≤ gb294)); clear HB; have HB := n0_; have BK294 := n1_; have GW294 := n2_; have GE294 := n3_; clear n0_ n1_ n2_ n3_; clear hb hbox hg; have hcz81_0 : w80.cell? ⟨gb294, 0, none⟩ = some (.int .i64 a0_0) := (blk_cell BK294.out 0).trans rfl; have hcz81_1 : w80.cell? ⟨gb294, 1, none⟩ = some (.int .i64 a0_1) := (blk_cell BK294.out 1).trans rfl; have hcz81_2 : w80.cell? ⟨gb294, 2, none⟩ = some (.int .i64 a0_2) := (blk_cell BK294.out 2).trans rfl; have hcz81_3 : w80.cell? ⟨gb294, 3, none⟩ = some (.int .i64 a0_3) := (blk_cell BK294.out 3).trans rfl; have hcz81_4 : w80.cell? ⟨gb294, 4, none⟩ = some (.int .i64 a0_4) := (blk_cell BK294.out 4).trans rfl; have hfz81_0 := blk_frozen BK294.out 0; have hfz81_1 := blk_frozen BK294.out 1; have hfz81_2 := blk_frozen BK294.out 2; have hfz81_3 := blk_frozen BK294.out 3; have hfz81_4 := blk_frozen BK294.out 4) | ((with_reducible refine gate_callee (f := 34) rfl ?_); refine goesL_ (some 5) rfl rfl Try.func34 (by kernel_rfl) rfl #[.int .i64 a0_0] rfl (by (try simp only [List.map_toArray, List.map_cons, List.map_nil]); first | done | rfl | (simp only [List.length_drop, List.length_take]; rfl)) ?_; (with_reducible refine (spliceref02_three.calls a0_0 false _ A2.out).mono ?_); rintro e w' ⟨rfl, ⟨nd, rfl⟩⟩; refine ⟨_, rfl, ?_⟩) | ((with_reducible refine gate_callee (f := 35) rfl ?_); refine goesL_ (some 29) rfl rfl Try.func35 (by kernel_rfl) rfl #[.int .i64 a0_0] rfl (by (try simp only [List.map_toArray, List.map_cons, List.map_nil]); first | done | rfl | (simp only [List.length_drop, List.length_take]; rfl)) ?_; (with_reducible refine (spliceref02_near.calls a0_0 false _ A19.out).mono ?_); rintro e w' ⟨rfl, ⟨nd, rfl⟩⟩; refine ⟨_, rfl, ?_⟩) | ((with_reducible refine gate_callee (f := 36) rfl ?_); refine goesL_ (some 71) rfl rfl Try.func36 (by kernel_rfl) rfl #[.int .i64 a0_0] rfl (by (try simp only [List.map_toArray, List.map_cons, List.map_nil]); first | done | rfl | (simp only [List.length_drop, List.length_take]; rfl)) ?_; (with_reducible refine (spliceref02_branch.calls a0_0 false _ A48.out).mono ?_); rintro e w' ⟨rfl, ⟨nd, rfl⟩⟩; refine ⟨_, rfl, ?_⟩) | ((with_reducible refine gate_callee (f := 52) rfl ?_); refine goesL_ (some 111) rfl rfl Try.func52 (by kernel_rfl) rfl #[.int .i64 a0_0] rfl (by (try simp only [List.map_toArray, List.map_cons, List.map_nil]); first | done | rfl | (simp only [List.length_drop, List.length_take]; rfl)) ?_; (with_reducible refine (spliceref02_one.calls a0_0 true _ A74.out).mono ?_); rintro e w' ⟨rfl, ⟨nd, rfl⟩⟩; refine ⟨_, rfl, ?_⟩) | ((with_reducible refine gate_callee (f := 51) rfl ?_); refine goesL_ (some 114) rfl rfl Try.func51 (by kernel_rfl) rfl #[.int .i64 a0_1] rfl (by (try simp only [List.map_toArray, List.map_cons, List.map_nil]); first | done | rfl | (simp only [List.length_drop, List.length_take]; rfl)) ?_; (with_reducible refine (spliceref02_reg.calls a0_1 false _ A76.out).mono ?_); rintro e w' ⟨rfl, ⟨nd, rfl⟩⟩; refine ⟨_, rfl, ?_⟩))
          go_ret
          exact ⟨by first | rfl | (simp [errW_none, errW_some] <;> rfl) | (simp [*, errW_none, errW_some] <;> rfl), by repeat (first | (with_reducible first | exact HB.out | apply below_alloc | apply pw_below_drewN | apply below_drew1 | refine below_set ?_ GE294.out) | exact HB.out)⟩
        ·
         replace c75 := Bool.eq_false_iff.mpr c75
         subst c75
         have H1 : ((spliceref02_far.f a0_0).bind fun t310 => (if t310 = true then (if a0_1 = 0 then (if a0_4 ≥ (-8388608) then (some (decide (a0_4 ≤ 8388607))) else (some false)) else (some false)) else (if a0_0 = 21 then (if a0_1 = 0 then (some (a0_4 == 0)) else (some false)) else (if a0_0 = 24 then (if a0_1 = 0 then (some (a0_4 == 0)) else (some false)) else (if a0_0 = 25 then (if a0_1 = 0 then (some (a0_4 == 0)) else (some false)) else (some false)))))) = some r := by rw [if_neg (show ¬ (false = true) by decide)] at H; exact H
         clear H
         have H := H1
         clear H1
         replace H := Option.bind_eq_some_iff.mp H
         obtain ⟨t310, A820, H⟩ := H
         replace H : (if t310 = true then (if a0_1 = 0 then (if a0_4 ≥ (-8388608) then (some (decide (a0_4 ≤ 8388607))) else (some false)) else (some false)) else (if a0_0 = 21 then (if a0_1 = 0 then (some (a0_4 == 0)) else (some false)) else (if a0_0 = 24 then (if a0_1 = 0 then (some (a0_4 == 0)) else (some false)) else (if a0_0 = 25 then (if a0_1 = 0 then (some (a0_4 == 0)) else (some false)) else (some false))))) = some r := H
         have A82 := Aside0.mk A820
         clear A820
         by_cases c83 : t310 = true
         ·
          subst c83
          have H1 : (if a0_1 = 0 then (if a0_4 ≥ (-8388608) then (some (decide (a0_4 ≤ 8388607))) else (some false)) else (some false)) = some r := by rw [if_pos rfl] at H; exact H
          clear H
          have H := H1
          clear H1
          by_cases c84 : a0_1 = 0
          ·
           rw [if_pos c84] at H
           have c84b0 : (a0_1 == 0) = true := beq_iff_eq.mpr c84
           have c84b1 : (a0_1 != 0) = false := bne_eq_false_iff_eq.mpr c84
           clear c84
           by_cases c85 : a0_4 ≥ (-8388608)
           ·
            rw [if_pos c85] at H
            have c85b0 : decide ((-8388608) ≤ a0_4) = true := decide_eq_true c85
            clear c85
            obtain rfl := Option.some.inj H
            go_enter Try.func37, Try.ntmps37
            go_wp2_with (first | ((with_reducible refine gate_dst (N := 1) rfl ?_); refine box_event ?hg (N := 1) ?hd (cs := #[.int .i64 a0_0, .int .i64 a0_1, .int .i64 a0_2, .int .i64 a0_3, .int .i64 a0_4]) (t := 40) ?hr ?_; (case hd => rfl); (case hg => rfl); (case hr => first | (go_simp; done) | (go_simp; rfl)); intro gb294 hg w86 hbox hb; have n0_ := Aside0.mk (below_step (by repeat (first | (with_reducible first | exact HB.out | apply below_alloc | apply pw_below_drewN | apply below_drew1) | exact HB.out)) hb); have n1_ := Aside0.mk (hbox); have n2_ := Aside0.mk ((by rw [hg]; exact (below_size (by repeat (first | (with_reducible first | exact HB.out | apply below_alloc | apply pw_below_drewN | apply below_drew1) | exact HB.out))) : w.heap.size ≤ gb294)); have n3_ := Aside0.mk ((by rw [hg]; exact (below_size (by repeat (first | (with_reducible first | exact HB.out | apply below_alloc | apply pw_below_drewN | apply below_drew1) | exact HB.out))) : w.heap.size ≤ gb294)); clear HB; have HB := n0_; have BK294 := n1_; have GW294 := n2_; have GE294 := n3_; clear n0_ n1_ n2_ n3_; clear hb hbox hg; have hcz87_0 : w86.cell? ⟨gb294, 0, none⟩ = some (.int .i64 a0_0) := (blk_cell BK294.out 0).trans rfl; have hcz87_1 : w86.cell? ⟨gb294, 1, none⟩ = some (.int .i64 a0_1) := (blk_cell BK294.out 1).trans rfl; have hcz87_2 : w86.cell? ⟨gb294, 2, none⟩ = some (.int .i64 a0_2) := (blk_cell BK294.out 2).trans rfl; have hcz87_3 : w86.cell? ⟨gb294, 3, none⟩ = some (.int .i64 a0_3) := (blk_cell BK294.out 3).trans rfl; have hcz87_4 : w86.cell? ⟨gb294, 4, none⟩ = some (.int .i64 a0_4) := (blk_cell BK294.out 4).trans rfl; have hfz87_0 := blk_frozen BK294.out 0; have hfz87_1 := blk_frozen BK294.out 1; have hfz87_2 := blk_frozen BK294.out 2; have hfz87_3 := blk_frozen BK294.out 3; have hfz87_4 := blk_frozen BK294.out 4) | ((with_reducible refine gate_callee (f := 34) rfl ?_); refine goesL_ (some 5) rfl rfl Try.func34 (by kernel_rfl) rfl #[.int .i64 a0_0] rfl (by (try simp only [List.map_toArray, List.map_cons, List.map_nil]); first | done | rfl | (simp only [List.length_drop, List.length_take]; rfl)) ?_; (with_reducible refine (spliceref02_three.calls a0_0 false _ A2.out).mono ?_); rintro e w' ⟨rfl, ⟨nd, rfl⟩⟩; refine ⟨_, rfl, ?_⟩) | ((with_reducible refine gate_callee (f := 35) rfl ?_); refine goesL_ (some 29) rfl rfl Try.func35 (by kernel_rfl) rfl #[.int .i64 a0_0] rfl (by (try simp only [List.map_toArray, List.map_cons, List.map_nil]); first | done | rfl | (simp only [List.length_drop, List.length_take]; rfl)) ?_; (with_reducible refine (spliceref02_near.calls a0_0 false _ A19.out).mono ?_); rintro e w' ⟨rfl, ⟨nd, rfl⟩⟩; refine ⟨_, rfl, ?_⟩) | ((with_reducible refine gate_callee (f := 36) rfl ?_); refine goesL_ (some 71) rfl rfl Try.func36 (by kernel_rfl) rfl #[.int .i64 a0_0] rfl (by (try simp only [List.map_toArray, List.map_cons, List.map_nil]); first | done | rfl | (simp only [List.length_drop, List.length_take]; rfl)) ?_; (with_reducible refine (spliceref02_branch.calls a0_0 false _ A48.out).mono ?_); rintro e w' ⟨rfl, ⟨nd, rfl⟩⟩; refine ⟨_, rfl, ?_⟩) | ((with_reducible refine gate_callee (f := 52) rfl ?_); refine goesL_ (some 111) rfl rfl Try.func52 (by kernel_rfl) rfl #[.int .i64 a0_0] rfl (by (try simp only [List.map_toArray, List.map_cons, List.map_nil]); first | done | rfl | (simp only [List.length_drop, List.length_take]; rfl)) ?_; (with_reducible refine (spliceref02_one.calls a0_0 false _ A74.out).mono ?_); rintro e w' ⟨rfl, ⟨nd, rfl⟩⟩; refine ⟨_, rfl, ?_⟩) | ((with_reducible refine gate_callee (f := 32) rfl ?_); refine goesL_ (some 122) rfl rfl Try.func32 (by kernel_rfl) rfl #[.int .i64 a0_0] rfl (by (try simp only [List.map_toArray, List.map_cons, List.map_nil]); first | done | rfl | (simp only [List.length_drop, List.length_take]; rfl)) ?_; (with_reducible refine (spliceref02_far.calls a0_0 true _ A82.out).mono ?_); rintro e w' ⟨rfl, ⟨nd, rfl⟩⟩; refine ⟨_, rfl, ?_⟩))
            go_ret
            exact ⟨by first | rfl | (simp [errW_none, errW_some] <;> rfl) | (simp [*, errW_none, errW_some] <;> rfl), by repeat (first | (with_reducible first | exact HB.out | apply below_alloc | apply pw_below_drewN | apply below_drew1 | refine below_set ?_ GE294.out) | exact HB.out)⟩
           ·
            rw [if_neg c85] at H
            have c85b0 : decide ((-8388608) ≤ a0_4) = false := decide_eq_false c85
            clear c85
            obtain rfl := Option.some.inj H
            go_enter Try.func37, Try.ntmps37
            go_wp2_with (first | ((with_reducible refine gate_dst (N := 1) rfl ?_); refine box_event ?hg (N := 1) ?hd (cs := #[.int .i64 a0_0, .int .i64 a0_1, .int .i64 a0_2, .int .i64 a0_3, .int .i64 a0_4]) (t := 40) ?hr ?_; (case hd => rfl); (case hg => rfl); (case hr => first | (go_simp; done) | (go_simp; rfl)); intro gb294 hg w88 hbox hb; have n0_ := Aside0.mk (below_step (by repeat (first | (with_reducible first | exact HB.out | apply below_alloc | apply pw_below_drewN | apply below_drew1) | exact HB.out)) hb); have n1_ := Aside0.mk (hbox); have n2_ := Aside0.mk ((by rw [hg]; exact (below_size (by repeat (first | (with_reducible first | exact HB.out | apply below_alloc | apply pw_below_drewN | apply below_drew1) | exact HB.out))) : w.heap.size ≤ gb294)); have n3_ := Aside0.mk ((by rw [hg]; exact (below_size (by repeat (first | (with_reducible first | exact HB.out | apply below_alloc | apply pw_below_drewN | apply below_drew1) | exact HB.out))) : w.heap.size ≤ gb294)); clear HB; have HB := n0_; have BK294 := n1_; have GW294 := n2_; have GE294 := n3_; clear n0_ n1_ n2_ n3_; clear hb hbox hg; have hcz89_0 : w88.cell? ⟨gb294, 0, none⟩ = some (.int .i64 a0_0) := (blk_cell BK294.out 0).trans rfl; have hcz89_1 : w88.cell? ⟨gb294, 1, none⟩ = some (.int .i64 a0_1) := (blk_cell BK294.out 1).trans rfl; have hcz89_2 : w88.cell? ⟨gb294, 2, none⟩ = some (.int .i64 a0_2) := (blk_cell BK294.out 2).trans rfl; have hcz89_3 : w88.cell? ⟨gb294, 3, none⟩ = some (.int .i64 a0_3) := (blk_cell BK294.out 3).trans rfl; have hcz89_4 : w88.cell? ⟨gb294, 4, none⟩ = some (.int .i64 a0_4) := (blk_cell BK294.out 4).trans rfl; have hfz89_0 := blk_frozen BK294.out 0; have hfz89_1 := blk_frozen BK294.out 1; have hfz89_2 := blk_frozen BK294.out 2; have hfz89_3 := blk_frozen BK294.out 3; have hfz89_4 := blk_frozen BK294.out 4) | ((with_reducible refine gate_callee (f := 34) rfl ?_); refine goesL_ (some 5) rfl rfl Try.func34 (by kernel_rfl) rfl #[.int .i64 a0_0] rfl (by (try simp only [List.map_toArray, List.map_cons, List.map_nil]); first | done | rfl | (simp only [List.length_drop, List.length_take]; rfl)) ?_; (with_reducible refine (spliceref02_three.calls a0_0 false _ A2.out).mono ?_); rintro e w' ⟨rfl, ⟨nd, rfl⟩⟩; refine ⟨_, rfl, ?_⟩) | ((with_reducible refine gate_callee (f := 35) rfl ?_); refine goesL_ (some 29) rfl rfl Try.func35 (by kernel_rfl) rfl #[.int .i64 a0_0] rfl (by (try simp only [List.map_toArray, List.map_cons, List.map_nil]); first | done | rfl | (simp only [List.length_drop, List.length_take]; rfl)) ?_; (with_reducible refine (spliceref02_near.calls a0_0 false _ A19.out).mono ?_); rintro e w' ⟨rfl, ⟨nd, rfl⟩⟩; refine ⟨_, rfl, ?_⟩) | ((with_reducible refine gate_callee (f := 36) rfl ?_); refine goesL_ (some 71) rfl rfl Try.func36 (by kernel_rfl) rfl #[.int .i64 a0_0] rfl (by (try simp only [List.map_toArray, List.map_cons, List.map_nil]); first | done | rfl | (simp only [List.length_drop, List.length_take]; rfl)) ?_; (with_reducible refine (spliceref02_branch.calls a0_0 false _ A48.out).mono ?_); rintro e w' ⟨rfl, ⟨nd, rfl⟩⟩; refine ⟨_, rfl, ?_⟩) | ((with_reducible refine gate_callee (f := 52) rfl ?_); refine goesL_ (some 111) rfl rfl Try.func52 (by kernel_rfl) rfl #[.int .i64 a0_0] rfl (by (try simp only [List.map_toArray, List.map_cons, List.map_nil]); first | done | rfl | (simp only [List.length_drop, List.length_take]; rfl)) ?_; (with_reducible refine (spliceref02_one.calls a0_0 false _ A74.out).mono ?_); rintro e w' ⟨rfl, ⟨nd, rfl⟩⟩; refine ⟨_, rfl, ?_⟩) | ((with_reducible refine gate_callee (f := 32) rfl ?_); refine goesL_ (some 122) rfl rfl Try.func32 (by kernel_rfl) rfl #[.int .i64 a0_0] rfl (by (try simp only [List.map_toArray, List.map_cons, List.map_nil]); first | done | rfl | (simp only [List.length_drop, List.length_take]; rfl)) ?_; (with_reducible refine (spliceref02_far.calls a0_0 true _ A82.out).mono ?_); rintro e w' ⟨rfl, ⟨nd, rfl⟩⟩; refine ⟨_, rfl, ?_⟩))
            go_ret
            exact ⟨by first | rfl | (simp [errW_none, errW_some] <;> rfl) | (simp [*, errW_none, errW_some] <;> rfl), by repeat (first | (with_reducible first | exact HB.out | apply below_alloc | apply pw_below_drewN | apply below_drew1 | refine below_set ?_ GE294.out) | exact HB.out)⟩
          ·
           rw [if_neg c84] at H
           have c84b0 : (a0_1 == 0) = false := beq_eq_false_iff_ne.mpr c84
           have c84b1 : (a0_1 != 0) = true := bne_iff_ne.mpr c84
           obtain rfl := Option.some.inj H
           go_enter Try.func37, Try.ntmps37
           go_wp2_with (first | ((with_reducible refine gate_dst (N := 1) rfl ?_); refine box_event ?hg (N := 1) ?hd (cs := #[.int .i64 a0_0, .int .i64 a0_1, .int .i64 a0_2, .int .i64 a0_3, .int .i64 a0_4]) (t := 40) ?hr ?_; (case hd => rfl); (case hg => rfl); (case hr => first | (go_simp; done) | (go_simp; rfl)); intro gb294 hg w90 hbox hb; have n0_ := Aside0.mk (below_step (by repeat (first | (with_reducible first | exact HB.out | apply below_alloc | apply pw_below_drewN | apply below_drew1) | exact HB.out)) hb); have n1_ := Aside0.mk (hbox); have n2_ := Aside0.mk ((by rw [hg]; exact (below_size (by repeat (first | (with_reducible first | exact HB.out | apply below_alloc | apply pw_below_drewN | apply below_drew1) | exact HB.out))) : w.heap.size ≤ gb294)); have n3_ := Aside0.mk ((by rw [hg]; exact (below_size (by repeat (first | (with_reducible first | exact HB.out | apply below_alloc | apply pw_below_drewN | apply below_drew1) | exact HB.out))) : w.heap.size ≤ gb294)); clear HB; have HB := n0_; have BK294 := n1_; have GW294 := n2_; have GE294 := n3_; clear n0_ n1_ n2_ n3_; clear hb hbox hg; have hcz91_0 : w90.cell? ⟨gb294, 0, none⟩ = some (.int .i64 a0_0) := (blk_cell BK294.out 0).trans rfl; have hcz91_1 : w90.cell? ⟨gb294, 1, none⟩ = some (.int .i64 a0_1) := (blk_cell BK294.out 1).trans rfl; have hcz91_2 : w90.cell? ⟨gb294, 2, none⟩ = some (.int .i64 a0_2) := (blk_cell BK294.out 2).trans rfl; have hcz91_3 : w90.cell? ⟨gb294, 3, none⟩ = some (.int .i64 a0_3) := (blk_cell BK294.out 3).trans rfl; have hcz91_4 : w90.cell? ⟨gb294, 4, none⟩ = some (.int .i64 a0_4) := (blk_cell BK294.out 4).trans rfl; have hfz91_0 := blk_frozen BK294.out 0; have hfz91_1 := blk_frozen BK294.out 1; have hfz91_2 := blk_frozen BK294.out 2; have hfz91_3 := blk_frozen BK294.out 3; have hfz91_4 := blk_frozen BK294.out 4) | ((with_reducible refine gate_callee (f := 34) rfl ?_); refine goesL_ (some 5) rfl rfl Try.func34 (by kernel_rfl) rfl #[.int .i64 a0_0] rfl (by (try simp only [List.map_toArray, List.map_cons, List.map_nil]); first | done | rfl | (simp only [List.length_drop, List.length_take]; rfl)) ?_; (with_reducible refine (spliceref02_three.calls a0_0 false _ A2.out).mono ?_); rintro e w' ⟨rfl, ⟨nd, rfl⟩⟩; refine ⟨_, rfl, ?_⟩) | ((with_reducible refine gate_callee (f := 35) rfl ?_); refine goesL_ (some 29) rfl rfl Try.func35 (by kernel_rfl) rfl #[.int .i64 a0_0] rfl (by (try simp only [List.map_toArray, List.map_cons, List.map_nil]); first | done | rfl | (simp only [List.length_drop, List.length_take]; rfl)) ?_; (with_reducible refine (spliceref02_near.calls a0_0 false _ A19.out).mono ?_); rintro e w' ⟨rfl, ⟨nd, rfl⟩⟩; refine ⟨_, rfl, ?_⟩) | ((with_reducible refine gate_callee (f := 36) rfl ?_); refine goesL_ (some 71) rfl rfl Try.func36 (by kernel_rfl) rfl #[.int .i64 a0_0] rfl (by (try simp only [List.map_toArray, List.map_cons, List.map_nil]); first | done | rfl | (simp only [List.length_drop, List.length_take]; rfl)) ?_; (with_reducible refine (spliceref02_branch.calls a0_0 false _ A48.out).mono ?_); rintro e w' ⟨rfl, ⟨nd, rfl⟩⟩; refine ⟨_, rfl, ?_⟩) | ((with_reducible refine gate_callee (f := 52) rfl ?_); refine goesL_ (some 111) rfl rfl Try.func52 (by kernel_rfl) rfl #[.int .i64 a0_0] rfl (by (try simp only [List.map_toArray, List.map_cons, List.map_nil]); first | done | rfl | (simp only [List.length_drop, List.length_take]; rfl)) ?_; (with_reducible refine (spliceref02_one.calls a0_0 false _ A74.out).mono ?_); rintro e w' ⟨rfl, ⟨nd, rfl⟩⟩; refine ⟨_, rfl, ?_⟩) | ((with_reducible refine gate_callee (f := 32) rfl ?_); refine goesL_ (some 122) rfl rfl Try.func32 (by kernel_rfl) rfl #[.int .i64 a0_0] rfl (by (try simp only [List.map_toArray, List.map_cons, List.map_nil]); first | done | rfl | (simp only [List.length_drop, List.length_take]; rfl)) ?_; (with_reducible refine (spliceref02_far.calls a0_0 true _ A82.out).mono ?_); rintro e w' ⟨rfl, ⟨nd, rfl⟩⟩; refine ⟨_, rfl, ?_⟩))
           go_ret
           exact ⟨by first | rfl | (simp [errW_none, errW_some] <;> rfl) | (simp [*, errW_none, errW_some] <;> rfl), by repeat (first | (with_reducible first | exact HB.out | apply below_alloc | apply pw_below_drewN | apply below_drew1 | refine below_set ?_ GE294.out) | exact HB.out)⟩
         ·
          replace c83 := Bool.eq_false_iff.mpr c83
          subst c83
          have H1 : (if a0_0 = 21 then (if a0_1 = 0 then (some (a0_4 == 0)) else (some false)) else (if a0_0 = 24 then (if a0_1 = 0 then (some (a0_4 == 0)) else (some false)) else (if a0_0 = 25 then (if a0_1 = 0 then (some (a0_4 == 0)) else (some false)) else (some false)))) = some r := by rw [if_neg (show ¬ (false = true) by decide)] at H; exact H
          clear H
          have H := H1
          clear H1
          by_cases c92 : a0_0 = 21
          ·
           rw [if_pos c92] at H
           have c92b0 : (a0_0 == 21) = true := beq_iff_eq.mpr c92
           have c92b1 : (a0_0 != 21) = false := bne_eq_false_iff_eq.mpr c92
           clear c92
           by_cases c93 : a0_1 = 0
           ·
            rw [if_pos c93] at H
            have c93b0 : (a0_1 == 0) = true := beq_iff_eq.mpr c93
            have c93b1 : (a0_1 != 0) = false := bne_eq_false_iff_eq.mpr c93
            clear c93
            obtain rfl := Option.some.inj H
            go_enter Try.func37, Try.ntmps37
            go_wp2_with (first | ((with_reducible refine gate_dst (N := 1) rfl ?_); refine box_event ?hg (N := 1) ?hd (cs := #[.int .i64 a0_0, .int .i64 a0_1, .int .i64 a0_2, .int .i64 a0_3, .int .i64 a0_4]) (t := 40) ?hr ?_; (case hd => rfl); (case hg => rfl); (case hr => first | (go_simp; done) | (go_simp; rfl)); intro gb294 hg w94 hbox hb; have n0_ := Aside0.mk (below_step (by repeat (first | (with_reducible first | exact HB.out | apply below_alloc | apply pw_below_drewN | apply below_drew1) | exact HB.out)) hb); have n1_ := Aside0.mk (hbox); have n2_ := Aside0.mk ((by rw [hg]; exact (below_size (by repeat (first | (with_reducible first | exact HB.out | apply below_alloc | apply pw_below_drewN | apply below_drew1) | exact HB.out))) : w.heap.size ≤ gb294)); have n3_ := Aside0.mk ((by rw [hg]; exact (below_size (by repeat (first | (with_reducible first | exact HB.out | apply below_alloc | apply pw_below_drewN | apply below_drew1) | exact HB.out))) : w.heap.size ≤ gb294)); clear HB; have HB := n0_; have BK294 := n1_; have GW294 := n2_; have GE294 := n3_; clear n0_ n1_ n2_ n3_; clear hb hbox hg; have hcz95_0 : w94.cell? ⟨gb294, 0, none⟩ = some (.int .i64 a0_0) := (blk_cell BK294.out 0).trans rfl; have hcz95_1 : w94.cell? ⟨gb294, 1, none⟩ = some (.int .i64 a0_1) := (blk_cell BK294.out 1).trans rfl; have hcz95_2 : w94.cell? ⟨gb294, 2, none⟩ = some (.int .i64 a0_2) := (blk_cell BK294.out 2).trans rfl; have hcz95_3 : w94.cell? ⟨gb294, 3, none⟩ = some (.int .i64 a0_3) := (blk_cell BK294.out 3).trans rfl; have hcz95_4 : w94.cell? ⟨gb294, 4, none⟩ = some (.int .i64 a0_4) := (blk_cell BK294.out 4).trans rfl; have hfz95_0 := blk_frozen BK294.out 0; have hfz95_1 := blk_frozen BK294.out 1; have hfz95_2 := blk_frozen BK294.out 2; have hfz95_3 := blk_frozen BK294.out 3; have hfz95_4 := blk_frozen BK294.out 4) | ((with_reducible refine gate_callee (f := 34) rfl ?_); refine goesL_ (some 5) rfl rfl Try.func34 (by kernel_rfl) rfl #[.int .i64 a0_0] rfl (by (try simp only [List.map_toArray, List.map_cons, List.map_nil]); first | done | rfl | (simp only [List.length_drop, List.length_take]; rfl)) ?_; (with_reducible refine (spliceref02_three.calls a0_0 false _ A2.out).mono ?_); rintro e w' ⟨rfl, ⟨nd, rfl⟩⟩; refine ⟨_, rfl, ?_⟩) | ((with_reducible refine gate_callee (f := 35) rfl ?_); refine goesL_ (some 29) rfl rfl Try.func35 (by kernel_rfl) rfl #[.int .i64 a0_0] rfl (by (try simp only [List.map_toArray, List.map_cons, List.map_nil]); first | done | rfl | (simp only [List.length_drop, List.length_take]; rfl)) ?_; (with_reducible refine (spliceref02_near.calls a0_0 false _ A19.out).mono ?_); rintro e w' ⟨rfl, ⟨nd, rfl⟩⟩; refine ⟨_, rfl, ?_⟩) | ((with_reducible refine gate_callee (f := 36) rfl ?_); refine goesL_ (some 71) rfl rfl Try.func36 (by kernel_rfl) rfl #[.int .i64 a0_0] rfl (by (try simp only [List.map_toArray, List.map_cons, List.map_nil]); first | done | rfl | (simp only [List.length_drop, List.length_take]; rfl)) ?_; (with_reducible refine (spliceref02_branch.calls a0_0 false _ A48.out).mono ?_); rintro e w' ⟨rfl, ⟨nd, rfl⟩⟩; refine ⟨_, rfl, ?_⟩) | ((with_reducible refine gate_callee (f := 52) rfl ?_); refine goesL_ (some 111) rfl rfl Try.func52 (by kernel_rfl) rfl #[.int .i64 a0_0] rfl (by (try simp only [List.map_toArray, List.map_cons, List.map_nil]); first | done | rfl | (simp only [List.length_drop, List.length_take]; rfl)) ?_; (with_reducible refine (spliceref02_one.calls a0_0 false _ A74.out).mono ?_); rintro e w' ⟨rfl, ⟨nd, rfl⟩⟩; refine ⟨_, rfl, ?_⟩) | ((with_reducible refine gate_callee (f := 32) rfl ?_); refine goesL_ (some 122) rfl rfl Try.func32 (by kernel_rfl) rfl #[.int .i64 a0_0] rfl (by (try simp only [List.map_toArray, List.map_cons, List.map_nil]); first | done | rfl | (simp only [List.length_drop, List.length_take]; rfl)) ?_; (with_reducible refine (spliceref02_far.calls a0_0 false _ A82.out).mono ?_); rintro e w' ⟨rfl, ⟨nd, rfl⟩⟩; refine ⟨_, rfl, ?_⟩))
            go_ret
            exact ⟨by first | rfl | (simp [errW_none, errW_some] <;> rfl) | (simp [*, errW_none, errW_some] <;> rfl), by repeat (first | (with_reducible first | exact HB.out | apply below_alloc | apply pw_below_drewN | apply below_drew1 | refine below_set ?_ GE294.out) | exact HB.out)⟩
           ·
            rw [if_neg c93] at H
            have c93b0 : (a0_1 == 0) = false := beq_eq_false_iff_ne.mpr c93
            have c93b1 : (a0_1 != 0) = true := bne_iff_ne.mpr c93
            obtain rfl := Option.some.inj H
            go_enter Try.func37, Try.ntmps37
            go_wp2_with (first | ((with_reducible refine gate_dst (N := 1) rfl ?_); refine box_event ?hg (N := 1) ?hd (cs := #[.int .i64 a0_0, .int .i64 a0_1, .int .i64 a0_2, .int .i64 a0_3, .int .i64 a0_4]) (t := 40) ?hr ?_; (case hd => rfl); (case hg => rfl); (case hr => first | (go_simp; done) | (go_simp; rfl)); intro gb294 hg w96 hbox hb; have n0_ := Aside0.mk (below_step (by repeat (first | (with_reducible first | exact HB.out | apply below_alloc | apply pw_below_drewN | apply below_drew1) | exact HB.out)) hb); have n1_ := Aside0.mk (hbox); have n2_ := Aside0.mk ((by rw [hg]; exact (below_size (by repeat (first | (with_reducible first | exact HB.out | apply below_alloc | apply pw_below_drewN | apply below_drew1) | exact HB.out))) : w.heap.size ≤ gb294)); have n3_ := Aside0.mk ((by rw [hg]; exact (below_size (by repeat (first | (with_reducible first | exact HB.out | apply below_alloc | apply pw_below_drewN | apply below_drew1) | exact HB.out))) : w.heap.size ≤ gb294)); clear HB; have HB := n0_; have BK294 := n1_; have GW294 := n2_; have GE294 := n3_; clear n0_ n1_ n2_ n3_; clear hb hbox hg; have hcz97_0 : w96.cell? ⟨gb294, 0, none⟩ = some (.int .i64 a0_0) := (blk_cell BK294.out 0).trans rfl; have hcz97_1 : w96.cell? ⟨gb294, 1, none⟩ = some (.int .i64 a0_1) := (blk_cell BK294.out 1).trans rfl; have hcz97_2 : w96.cell? ⟨gb294, 2, none⟩ = some (.int .i64 a0_2) := (blk_cell BK294.out 2).trans rfl; have hcz97_3 : w96.cell? ⟨gb294, 3, none⟩ = some (.int .i64 a0_3) := (blk_cell BK294.out 3).trans rfl; have hcz97_4 : w96.cell? ⟨gb294, 4, none⟩ = some (.int .i64 a0_4) := (blk_cell BK294.out 4).trans rfl; have hfz97_0 := blk_frozen BK294.out 0; have hfz97_1 := blk_frozen BK294.out 1; have hfz97_2 := blk_frozen BK294.out 2; have hfz97_3 := blk_frozen BK294.out 3; have hfz97_4 := blk_frozen BK294.out 4) | ((with_reducible refine gate_callee (f := 34) rfl ?_); refine goesL_ (some 5) rfl rfl Try.func34 (by kernel_rfl) rfl #[.int .i64 a0_0] rfl (by (try simp only [List.map_toArray, List.map_cons, List.map_nil]); first | done | rfl | (simp only [List.length_drop, List.length_take]; rfl)) ?_; (with_reducible refine (spliceref02_three.calls a0_0 false _ A2.out).mono ?_); rintro e w' ⟨rfl, ⟨nd, rfl⟩⟩; refine ⟨_, rfl, ?_⟩) | ((with_reducible refine gate_callee (f := 35) rfl ?_); refine goesL_ (some 29) rfl rfl Try.func35 (by kernel_rfl) rfl #[.int .i64 a0_0] rfl (by (try simp only [List.map_toArray, List.map_cons, List.map_nil]); first | done | rfl | (simp only [List.length_drop, List.length_take]; rfl)) ?_; (with_reducible refine (spliceref02_near.calls a0_0 false _ A19.out).mono ?_); rintro e w' ⟨rfl, ⟨nd, rfl⟩⟩; refine ⟨_, rfl, ?_⟩) | ((with_reducible refine gate_callee (f := 36) rfl ?_); refine goesL_ (some 71) rfl rfl Try.func36 (by kernel_rfl) rfl #[.int .i64 a0_0] rfl (by (try simp only [List.map_toArray, List.map_cons, List.map_nil]); first | done | rfl | (simp only [List.length_drop, List.length_take]; rfl)) ?_; (with_reducible refine (spliceref02_branch.calls a0_0 false _ A48.out).mono ?_); rintro e w' ⟨rfl, ⟨nd, rfl⟩⟩; refine ⟨_, rfl, ?_⟩) | ((with_reducible refine gate_callee (f := 52) rfl ?_); refine goesL_ (some 111) rfl rfl Try.func52 (by kernel_rfl) rfl #[.int .i64 a0_0] rfl (by (try simp only [List.map_toArray, List.map_cons, List.map_nil]); first | done | rfl | (simp only [List.length_drop, List.length_take]; rfl)) ?_; (with_reducible refine (spliceref02_one.calls a0_0 false _ A74.out).mono ?_); rintro e w' ⟨rfl, ⟨nd, rfl⟩⟩; refine ⟨_, rfl, ?_⟩) | ((with_reducible refine gate_callee (f := 32) rfl ?_); refine goesL_ (some 122) rfl rfl Try.func32 (by kernel_rfl) rfl #[.int .i64 a0_0] rfl (by (try simp only [List.map_toArray, List.map_cons, List.map_nil]); first | done | rfl | (simp only [List.length_drop, List.length_take]; rfl)) ?_; (with_reducible refine (spliceref02_far.calls a0_0 false _ A82.out).mono ?_); rintro e w' ⟨rfl, ⟨nd, rfl⟩⟩; refine ⟨_, rfl, ?_⟩))
            go_ret
            exact ⟨by first | rfl | (simp [errW_none, errW_some] <;> rfl) | (simp [*, errW_none, errW_some] <;> rfl), by repeat (first | (with_reducible first | exact HB.out | apply below_alloc | apply pw_below_drewN | apply below_drew1 | refine below_set ?_ GE294.out) | exact HB.out)⟩
          ·
           rw [if_neg c92] at H
           have c92b0 : (a0_0 == 21) = false := beq_eq_false_iff_ne.mpr c92
           have c92b1 : (a0_0 != 21) = true := bne_iff_ne.mpr c92
           by_cases c98 : a0_0 = 24
           ·
            rw [if_pos c98] at H
            have c98b0 : (a0_0 == 24) = true := beq_iff_eq.mpr c98
            have c98b1 : (a0_0 != 24) = false := bne_eq_false_iff_eq.mpr c98
            clear c98
            by_cases c99 : a0_1 = 0
            ·
             rw [if_pos c99] at H
             have c99b0 : (a0_1 == 0) = true := beq_iff_eq.mpr c99
             have c99b1 : (a0_1 != 0) = false := bne_eq_false_iff_eq.mpr c99
             clear c99
             obtain rfl := Option.some.inj H
             go_enter Try.func37, Try.ntmps37
             go_wp2_with (first | ((with_reducible refine gate_dst (N := 1) rfl ?_); refine box_event ?hg (N := 1) ?hd (cs := #[.int .i64 a0_0, .int .i64 a0_1, .int .i64 a0_2, .int .i64 a0_3, .int .i64 a0_4]) (t := 40) ?hr ?_; (case hd => rfl); (case hg => rfl); (case hr => first | (go_simp; done) | (go_simp; rfl)); intro gb294 hg w100 hbox hb; have n0_ := Aside0.mk (below_step (by repeat (first | (with_reducible first | exact HB.out | apply below_alloc | apply pw_below_drewN | apply below_drew1) | exact HB.out)) hb); have n1_ := Aside0.mk (hbox); have n2_ := Aside0.mk ((by rw [hg]; exact (below_size (by repeat (first | (with_reducible first | exact HB.out | apply below_alloc | apply pw_below_drewN | apply below_drew1) | exact HB.out))) : w.heap.size ≤ gb294)); have n3_ := Aside0.mk ((by rw [hg]; exact (below_size (by repeat (first | (with_reducible first | exact HB.out | apply below_alloc | apply pw_below_drewN | apply below_drew1) | exact HB.out))) : w.heap.size ≤ gb294)); clear HB; have HB := n0_; have BK294 := n1_; have GW294 := n2_; have GE294 := n3_; clear n0_ n1_ n2_ n3_; clear hb hbox hg; have hcz101_0 : w100.cell? ⟨gb294, 0, none⟩ = some (.int .i64 a0_0) := (blk_cell BK294.out 0).trans rfl; have hcz101_1 : w100.cell? ⟨gb294, 1, none⟩ = some (.int .i64 a0_1) := (blk_cell BK294.out 1).trans rfl; have hcz101_2 : w100.cell? ⟨gb294, 2, none⟩ = some (.int .i64 a0_2) := (blk_cell BK294.out 2).trans rfl; have hcz101_3 : w100.cell? ⟨gb294, 3, none⟩ = some (.int .i64 a0_3) := (blk_cell BK294.out 3).trans rfl; have hcz101_4 : w100.cell? ⟨gb294, 4, none⟩ = some (.int .i64 a0_4) := (blk_cell BK294.out 4).trans rfl; have hfz101_0 := blk_frozen BK294.out 0; have hfz101_1 := blk_frozen BK294.out 1; have hfz101_2 := blk_frozen BK294.out 2; have hfz101_3 := blk_frozen BK294.out 3; have hfz101_4 := blk_frozen BK294.out 4) | ((with_reducible refine gate_callee (f := 34) rfl ?_); refine goesL_ (some 5) rfl rfl Try.func34 (by kernel_rfl) rfl #[.int .i64 a0_0] rfl (by (try simp only [List.map_toArray, List.map_cons, List.map_nil]); first | done | rfl | (simp only [List.length_drop, List.length_take]; rfl)) ?_; (with_reducible refine (spliceref02_three.calls a0_0 false _ A2.out).mono ?_); rintro e w' ⟨rfl, ⟨nd, rfl⟩⟩; refine ⟨_, rfl, ?_⟩) | ((with_reducible refine gate_callee (f := 35) rfl ?_); refine goesL_ (some 29) rfl rfl Try.func35 (by kernel_rfl) rfl #[.int .i64 a0_0] rfl (by (try simp only [List.map_toArray, List.map_cons, List.map_nil]); first | done | rfl | (simp only [List.length_drop, List.length_take]; rfl)) ?_; (with_reducible refine (spliceref02_near.calls a0_0 false _ A19.out).mono ?_); rintro e w' ⟨rfl, ⟨nd, rfl⟩⟩; refine ⟨_, rfl, ?_⟩) | ((with_reducible refine gate_callee (f := 36) rfl ?_); refine goesL_ (some 71) rfl rfl Try.func36 (by kernel_rfl) rfl #[.int .i64 a0_0] rfl (by (try simp only [List.map_toArray, List.map_cons, List.map_nil]); first | done | rfl | (simp only [List.length_drop, List.length_take]; rfl)) ?_; (with_reducible refine (spliceref02_branch.calls a0_0 false _ A48.out).mono ?_); rintro e w' ⟨rfl, ⟨nd, rfl⟩⟩; refine ⟨_, rfl, ?_⟩) | ((with_reducible refine gate_callee (f := 52) rfl ?_); refine goesL_ (some 111) rfl rfl Try.func52 (by kernel_rfl) rfl #[.int .i64 a0_0] rfl (by (try simp only [List.map_toArray, List.map_cons, List.map_nil]); first | done | rfl | (simp only [List.length_drop, List.length_take]; rfl)) ?_; (with_reducible refine (spliceref02_one.calls a0_0 false _ A74.out).mono ?_); rintro e w' ⟨rfl, ⟨nd, rfl⟩⟩; refine ⟨_, rfl, ?_⟩) | ((with_reducible refine gate_callee (f := 32) rfl ?_); refine goesL_ (some 122) rfl rfl Try.func32 (by kernel_rfl) rfl #[.int .i64 a0_0] rfl (by (try simp only [List.map_toArray, List.map_cons, List.map_nil]); first | done | rfl | (simp only [List.length_drop, List.length_take]; rfl)) ?_; (with_reducible refine (spliceref02_far.calls a0_0 false _ A82.out).mono ?_); rintro e w' ⟨rfl, ⟨nd, rfl⟩⟩; refine ⟨_, rfl, ?_⟩))
             go_ret
             exact ⟨by first | rfl | (simp [errW_none, errW_some] <;> rfl) | (simp [*, errW_none, errW_some] <;> rfl), by repeat (first | (with_reducible first | exact HB.out | apply below_alloc | apply pw_below_drewN | apply below_drew1 | refine below_set ?_ GE294.out) | exact HB.out)⟩
            ·
             rw [if_neg c99] at H
             have c99b0 : (a0_1 == 0) = false := beq_eq_false_iff_ne.mpr c99
             have c99b1 : (a0_1 != 0) = true := bne_iff_ne.mpr c99
             obtain rfl := Option.some.inj H
             go_enter Try.func37, Try.ntmps37
             go_wp2_with (first | ((with_reducible refine gate_dst (N := 1) rfl ?_); refine box_event ?hg (N := 1) ?hd (cs := #[.int .i64 a0_0, .int .i64 a0_1, .int .i64 a0_2, .int .i64 a0_3, .int .i64 a0_4]) (t := 40) ?hr ?_; (case hd => rfl); (case hg => rfl); (case hr => first | (go_simp; done) | (go_simp; rfl)); intro gb294 hg w102 hbox hb; have n0_ := Aside0.mk (below_step (by repeat (first | (with_reducible first | exact HB.out | apply below_alloc | apply pw_below_drewN | apply below_drew1) | exact HB.out)) hb); have n1_ := Aside0.mk (hbox); have n2_ := Aside0.mk ((by rw [hg]; exact (below_size (by repeat (first | (with_reducible first | exact HB.out | apply below_alloc | apply pw_below_drewN | apply below_drew1) | exact HB.out))) : w.heap.size ≤ gb294)); have n3_ := Aside0.mk ((by rw [hg]; exact (below_size (by repeat (first | (with_reducible first | exact HB.out | apply below_alloc | apply pw_below_drewN | apply below_drew1) | exact HB.out))) : w.heap.size ≤ gb294)); clear HB; have HB := n0_; have BK294 := n1_; have GW294 := n2_; have GE294 := n3_; clear n0_ n1_ n2_ n3_; clear hb hbox hg; have hcz103_0 : w102.cell? ⟨gb294, 0, none⟩ = some (.int .i64 a0_0) := (blk_cell BK294.out 0).trans rfl; have hcz103_1 : w102.cell? ⟨gb294, 1, none⟩ = some (.int .i64 a0_1) := (blk_cell BK294.out 1).trans rfl; have hcz103_2 : w102.cell? ⟨gb294, 2, none⟩ = some (.int .i64 a0_2) := (blk_cell BK294.out 2).trans rfl; have hcz103_3 : w102.cell? ⟨gb294, 3, none⟩ = some (.int .i64 a0_3) := (blk_cell BK294.out 3).trans rfl; have hcz103_4 : w102.cell? ⟨gb294, 4, none⟩ = some (.int .i64 a0_4) := (blk_cell BK294.out 4).trans rfl; have hfz103_0 := blk_frozen BK294.out 0; have hfz103_1 := blk_frozen BK294.out 1; have hfz103_2 := blk_frozen BK294.out 2; have hfz103_3 := blk_frozen BK294.out 3; have hfz103_4 := blk_frozen BK294.out 4) | ((with_reducible refine gate_callee (f := 34) rfl ?_); refine goesL_ (some 5) rfl rfl Try.func34 (by kernel_rfl) rfl #[.int .i64 a0_0] rfl (by (try simp only [List.map_toArray, List.map_cons, List.map_nil]); first | done | rfl | (simp only [List.length_drop, List.length_take]; rfl)) ?_; (with_reducible refine (spliceref02_three.calls a0_0 false _ A2.out).mono ?_); rintro e w' ⟨rfl, ⟨nd, rfl⟩⟩; refine ⟨_, rfl, ?_⟩) | ((with_reducible refine gate_callee (f := 35) rfl ?_); refine goesL_ (some 29) rfl rfl Try.func35 (by kernel_rfl) rfl #[.int .i64 a0_0] rfl (by (try simp only [List.map_toArray, List.map_cons, List.map_nil]); first | done | rfl | (simp only [List.length_drop, List.length_take]; rfl)) ?_; (with_reducible refine (spliceref02_near.calls a0_0 false _ A19.out).mono ?_); rintro e w' ⟨rfl, ⟨nd, rfl⟩⟩; refine ⟨_, rfl, ?_⟩) | ((with_reducible refine gate_callee (f := 36) rfl ?_); refine goesL_ (some 71) rfl rfl Try.func36 (by kernel_rfl) rfl #[.int .i64 a0_0] rfl (by (try simp only [List.map_toArray, List.map_cons, List.map_nil]); first | done | rfl | (simp only [List.length_drop, List.length_take]; rfl)) ?_; (with_reducible refine (spliceref02_branch.calls a0_0 false _ A48.out).mono ?_); rintro e w' ⟨rfl, ⟨nd, rfl⟩⟩; refine ⟨_, rfl, ?_⟩) | ((with_reducible refine gate_callee (f := 52) rfl ?_); refine goesL_ (some 111) rfl rfl Try.func52 (by kernel_rfl) rfl #[.int .i64 a0_0] rfl (by (try simp only [List.map_toArray, List.map_cons, List.map_nil]); first | done | rfl | (simp only [List.length_drop, List.length_take]; rfl)) ?_; (with_reducible refine (spliceref02_one.calls a0_0 false _ A74.out).mono ?_); rintro e w' ⟨rfl, ⟨nd, rfl⟩⟩; refine ⟨_, rfl, ?_⟩) | ((with_reducible refine gate_callee (f := 32) rfl ?_); refine goesL_ (some 122) rfl rfl Try.func32 (by kernel_rfl) rfl #[.int .i64 a0_0] rfl (by (try simp only [List.map_toArray, List.map_cons, List.map_nil]); first | done | rfl | (simp only [List.length_drop, List.length_take]; rfl)) ?_; (with_reducible refine (spliceref02_far.calls a0_0 false _ A82.out).mono ?_); rintro e w' ⟨rfl, ⟨nd, rfl⟩⟩; refine ⟨_, rfl, ?_⟩))
             go_ret
             exact ⟨by first | rfl | (simp [errW_none, errW_some] <;> rfl) | (simp [*, errW_none, errW_some] <;> rfl), by repeat (first | (with_reducible first | exact HB.out | apply below_alloc | apply pw_below_drewN | apply below_drew1 | refine below_set ?_ GE294.out) | exact HB.out)⟩
           ·
            rw [if_neg c98] at H
            have c98b0 : (a0_0 == 24) = false := beq_eq_false_iff_ne.mpr c98
            have c98b1 : (a0_0 != 24) = true := bne_iff_ne.mpr c98
            by_cases c104 : a0_0 = 25
            ·
             rw [if_pos c104] at H
             have c104b0 : (a0_0 == 25) = true := beq_iff_eq.mpr c104
             have c104b1 : (a0_0 != 25) = false := bne_eq_false_iff_eq.mpr c104
             clear c104
             by_cases c105 : a0_1 = 0
             ·
              rw [if_pos c105] at H
              have c105b0 : (a0_1 == 0) = true := beq_iff_eq.mpr c105
              have c105b1 : (a0_1 != 0) = false := bne_eq_false_iff_eq.mpr c105
              clear c105
              obtain rfl := Option.some.inj H
              go_enter Try.func37, Try.ntmps37
              go_wp2_with (first | ((with_reducible refine gate_dst (N := 1) rfl ?_); refine box_event ?hg (N := 1) ?hd (cs := #[.int .i64 a0_0, .int .i64 a0_1, .int .i64 a0_2, .int .i64 a0_3, .int .i64 a0_4]) (t := 40) ?hr ?_; (case hd => rfl); (case hg => rfl); (case hr => first | (go_simp; done) | (go_simp; rfl)); intro gb294 hg w106 hbox hb; have n0_ := Aside0.mk (below_step (by repeat (first | (with_reducible first | exact HB.out | apply below_alloc | apply pw_below_drewN | apply below_drew1) | exact HB.out)) hb); have n1_ := Aside0.mk (hbox); have n2_ := Aside0.mk ((by rw [hg]; exact (below_size (by repeat (first | (with_reducible first | exact HB.out | apply below_alloc | apply pw_below_drewN | apply below_drew1) | exact HB.out))) : w.heap.size ≤ gb294)); have n3_ := Aside0.mk ((by rw [hg]; exact (below_size (by repeat (first | (with_reducible first | exact HB.out | apply below_alloc | apply pw_below_drewN | apply below_drew1) | exact HB.out))) : w.heap.size ≤ gb294)); clear HB; have HB := n0_; have BK294 := n1_; have GW294 := n2_; have GE294 := n3_; clear n0_ n1_ n2_ n3_; clear hb hbox hg; have hcz107_0 : w106.cell? ⟨gb294, 0, none⟩ = some (.int .i64 a0_0) := (blk_cell BK294.out 0).trans rfl; have hcz107_1 : w106.cell? ⟨gb294, 1, none⟩ = some (.int .i64 a0_1) := (blk_cell BK294.out 1).trans rfl; have hcz107_2 : w106.cell? ⟨gb294, 2, none⟩ = some (.int .i64 a0_2) := (blk_cell BK294.out 2).trans rfl; have hcz107_3 : w106.cell? ⟨gb294, 3, none⟩ = some (.int .i64 a0_3) := (blk_cell BK294.out 3).trans rfl; have hcz107_4 : w106.cell? ⟨gb294, 4, none⟩ = some (.int .i64 a0_4) := (blk_cell BK294.out 4).trans rfl; have hfz107_0 := blk_frozen BK294.out 0; have hfz107_1 := blk_frozen BK294.out 1; have hfz107_2 := blk_frozen BK294.out 2; have hfz107_3 := blk_frozen BK294.out 3; have hfz107_4 := blk_frozen BK294.out 4) | ((with_reducible refine gate_callee (f := 34) rfl ?_); refine goesL_ (some 5) rfl rfl Try.func34 (by kernel_rfl) rfl #[.int .i64 a0_0] rfl (by (try simp only [List.map_toArray, List.map_cons, List.map_nil]); first | done | rfl | (simp only [List.length_drop, List.length_take]; rfl)) ?_; (with_reducible refine (spliceref02_three.calls a0_0 false _ A2.out).mono ?_); rintro e w' ⟨rfl, ⟨nd, rfl⟩⟩; refine ⟨_, rfl, ?_⟩) | ((with_reducible refine gate_callee (f := 35) rfl ?_); refine goesL_ (some 29) rfl rfl Try.func35 (by kernel_rfl) rfl #[.int .i64 a0_0] rfl (by (try simp only [List.map_toArray, List.map_cons, List.map_nil]); first | done | rfl | (simp only [List.length_drop, List.length_take]; rfl)) ?_; (with_reducible refine (spliceref02_near.calls a0_0 false _ A19.out).mono ?_); rintro e w' ⟨rfl, ⟨nd, rfl⟩⟩; refine ⟨_, rfl, ?_⟩) | ((with_reducible refine gate_callee (f := 36) rfl ?_); refine goesL_ (some 71) rfl rfl Try.func36 (by kernel_rfl) rfl #[.int .i64 a0_0] rfl (by (try simp only [List.map_toArray, List.map_cons, List.map_nil]); first | done | rfl | (simp only [List.length_drop, List.length_take]; rfl)) ?_; (with_reducible refine (spliceref02_branch.calls a0_0 false _ A48.out).mono ?_); rintro e w' ⟨rfl, ⟨nd, rfl⟩⟩; refine ⟨_, rfl, ?_⟩) | ((with_reducible refine gate_callee (f := 52) rfl ?_); refine goesL_ (some 111) rfl rfl Try.func52 (by kernel_rfl) rfl #[.int .i64 a0_0] rfl (by (try simp only [List.map_toArray, List.map_cons, List.map_nil]); first | done | rfl | (simp only [List.length_drop, List.length_take]; rfl)) ?_; (with_reducible refine (spliceref02_one.calls a0_0 false _ A74.out).mono ?_); rintro e w' ⟨rfl, ⟨nd, rfl⟩⟩; refine ⟨_, rfl, ?_⟩) | ((with_reducible refine gate_callee (f := 32) rfl ?_); refine goesL_ (some 122) rfl rfl Try.func32 (by kernel_rfl) rfl #[.int .i64 a0_0] rfl (by (try simp only [List.map_toArray, List.map_cons, List.map_nil]); first | done | rfl | (simp only [List.length_drop, List.length_take]; rfl)) ?_; (with_reducible refine (spliceref02_far.calls a0_0 false _ A82.out).mono ?_); rintro e w' ⟨rfl, ⟨nd, rfl⟩⟩; refine ⟨_, rfl, ?_⟩))
              go_ret
              exact ⟨by first | rfl | (simp [errW_none, errW_some] <;> rfl) | (simp [*, errW_none, errW_some] <;> rfl), by repeat (first | (with_reducible first | exact HB.out | apply below_alloc | apply pw_below_drewN | apply below_drew1 | refine below_set ?_ GE294.out) | exact HB.out)⟩
             ·
              rw [if_neg c105] at H
              have c105b0 : (a0_1 == 0) = false := beq_eq_false_iff_ne.mpr c105
              have c105b1 : (a0_1 != 0) = true := bne_iff_ne.mpr c105
              obtain rfl := Option.some.inj H
              go_enter Try.func37, Try.ntmps37
              go_wp2_with (first | ((with_reducible refine gate_dst (N := 1) rfl ?_); refine box_event ?hg (N := 1) ?hd (cs := #[.int .i64 a0_0, .int .i64 a0_1, .int .i64 a0_2, .int .i64 a0_3, .int .i64 a0_4]) (t := 40) ?hr ?_; (case hd => rfl); (case hg => rfl); (case hr => first | (go_simp; done) | (go_simp; rfl)); intro gb294 hg w108 hbox hb; have n0_ := Aside0.mk (below_step (by repeat (first | (with_reducible first | exact HB.out | apply below_alloc | apply pw_below_drewN | apply below_drew1) | exact HB.out)) hb); have n1_ := Aside0.mk (hbox); have n2_ := Aside0.mk ((by rw [hg]; exact (below_size (by repeat (first | (with_reducible first | exact HB.out | apply below_alloc | apply pw_below_drewN | apply below_drew1) | exact HB.out))) : w.heap.size ≤ gb294)); have n3_ := Aside0.mk ((by rw [hg]; exact (below_size (by repeat (first | (with_reducible first | exact HB.out | apply below_alloc | apply pw_below_drewN | apply below_drew1) | exact HB.out))) : w.heap.size ≤ gb294)); clear HB; have HB := n0_; have BK294 := n1_; have GW294 := n2_; have GE294 := n3_; clear n0_ n1_ n2_ n3_; clear hb hbox hg; have hcz109_0 : w108.cell? ⟨gb294, 0, none⟩ = some (.int .i64 a0_0) := (blk_cell BK294.out 0).trans rfl; have hcz109_1 : w108.cell? ⟨gb294, 1, none⟩ = some (.int .i64 a0_1) := (blk_cell BK294.out 1).trans rfl; have hcz109_2 : w108.cell? ⟨gb294, 2, none⟩ = some (.int .i64 a0_2) := (blk_cell BK294.out 2).trans rfl; have hcz109_3 : w108.cell? ⟨gb294, 3, none⟩ = some (.int .i64 a0_3) := (blk_cell BK294.out 3).trans rfl; have hcz109_4 : w108.cell? ⟨gb294, 4, none⟩ = some (.int .i64 a0_4) := (blk_cell BK294.out 4).trans rfl; have hfz109_0 := blk_frozen BK294.out 0; have hfz109_1 := blk_frozen BK294.out 1; have hfz109_2 := blk_frozen BK294.out 2; have hfz109_3 := blk_frozen BK294.out 3; have hfz109_4 := blk_frozen BK294.out 4) | ((with_reducible refine gate_callee (f := 34) rfl ?_); refine goesL_ (some 5) rfl rfl Try.func34 (by kernel_rfl) rfl #[.int .i64 a0_0] rfl (by (try simp only [List.map_toArray, List.map_cons, List.map_nil]); first | done | rfl | (simp only [List.length_drop, List.length_take]; rfl)) ?_; (with_reducible refine (spliceref02_three.calls a0_0 false _ A2.out).mono ?_); rintro e w' ⟨rfl, ⟨nd, rfl⟩⟩; refine ⟨_, rfl, ?_⟩) | ((with_reducible refine gate_callee (f := 35) rfl ?_); refine goesL_ (some 29) rfl rfl Try.func35 (by kernel_rfl) rfl #[.int .i64 a0_0] rfl (by (try simp only [List.map_toArray, List.map_cons, List.map_nil]); first | done | rfl | (simp only [List.length_drop, List.length_take]; rfl)) ?_; (with_reducible refine (spliceref02_near.calls a0_0 false _ A19.out).mono ?_); rintro e w' ⟨rfl, ⟨nd, rfl⟩⟩; refine ⟨_, rfl, ?_⟩) | ((with_reducible refine gate_callee (f := 36) rfl ?_); refine goesL_ (some 71) rfl rfl Try.func36 (by kernel_rfl) rfl #[.int .i64 a0_0] rfl (by (try simp only [List.map_toArray, List.map_cons, List.map_nil]); first | done | rfl | (simp only [List.length_drop, List.length_take]; rfl)) ?_; (with_reducible refine (spliceref02_branch.calls a0_0 false _ A48.out).mono ?_); rintro e w' ⟨rfl, ⟨nd, rfl⟩⟩; refine ⟨_, rfl, ?_⟩) | ((with_reducible refine gate_callee (f := 52) rfl ?_); refine goesL_ (some 111) rfl rfl Try.func52 (by kernel_rfl) rfl #[.int .i64 a0_0] rfl (by (try simp only [List.map_toArray, List.map_cons, List.map_nil]); first | done | rfl | (simp only [List.length_drop, List.length_take]; rfl)) ?_; (with_reducible refine (spliceref02_one.calls a0_0 false _ A74.out).mono ?_); rintro e w' ⟨rfl, ⟨nd, rfl⟩⟩; refine ⟨_, rfl, ?_⟩) | ((with_reducible refine gate_callee (f := 32) rfl ?_); refine goesL_ (some 122) rfl rfl Try.func32 (by kernel_rfl) rfl #[.int .i64 a0_0] rfl (by (try simp only [List.map_toArray, List.map_cons, List.map_nil]); first | done | rfl | (simp only [List.length_drop, List.length_take]; rfl)) ?_; (with_reducible refine (spliceref02_far.calls a0_0 false _ A82.out).mono ?_); rintro e w' ⟨rfl, ⟨nd, rfl⟩⟩; refine ⟨_, rfl, ?_⟩))
              go_ret
              exact ⟨by first | rfl | (simp [errW_none, errW_some] <;> rfl) | (simp [*, errW_none, errW_some] <;> rfl), by repeat (first | (with_reducible first | exact HB.out | apply below_alloc | apply pw_below_drewN | apply below_drew1 | refine below_set ?_ GE294.out) | exact HB.out)⟩
            ·
             rw [if_neg c104] at H
             have c104b0 : (a0_0 == 25) = false := beq_eq_false_iff_ne.mpr c104
             have c104b1 : (a0_0 != 25) = true := bne_iff_ne.mpr c104
             obtain rfl := Option.some.inj H
             go_enter Try.func37, Try.ntmps37
             go_wp2_with (first | ((with_reducible refine gate_dst (N := 1) rfl ?_); refine box_event ?hg (N := 1) ?hd (cs := #[.int .i64 a0_0, .int .i64 a0_1, .int .i64 a0_2, .int .i64 a0_3, .int .i64 a0_4]) (t := 40) ?hr ?_; (case hd => rfl); (case hg => rfl); (case hr => first | (go_simp; done) | (go_simp; rfl)); intro gb294 hg w110 hbox hb; have n0_ := Aside0.mk (below_step (by repeat (first | (with_reducible first | exact HB.out | apply below_alloc | apply pw_below_drewN | apply below_drew1) | exact HB.out)) hb); have n1_ := Aside0.mk (hbox); have n2_ := Aside0.mk ((by rw [hg]; exact (below_size (by repeat (first | (with_reducible first | exact HB.out | apply below_alloc | apply pw_below_drewN | apply below_drew1) | exact HB.out))) : w.heap.size ≤ gb294)); have n3_ := Aside0.mk ((by rw [hg]; exact (below_size (by repeat (first | (with_reducible first | exact HB.out | apply below_alloc | apply pw_below_drewN | apply below_drew1) | exact HB.out))) : w.heap.size ≤ gb294)); clear HB; have HB := n0_; have BK294 := n1_; have GW294 := n2_; have GE294 := n3_; clear n0_ n1_ n2_ n3_; clear hb hbox hg; have hcz111_0 : w110.cell? ⟨gb294, 0, none⟩ = some (.int .i64 a0_0) := (blk_cell BK294.out 0).trans rfl; have hcz111_1 : w110.cell? ⟨gb294, 1, none⟩ = some (.int .i64 a0_1) := (blk_cell BK294.out 1).trans rfl; have hcz111_2 : w110.cell? ⟨gb294, 2, none⟩ = some (.int .i64 a0_2) := (blk_cell BK294.out 2).trans rfl; have hcz111_3 : w110.cell? ⟨gb294, 3, none⟩ = some (.int .i64 a0_3) := (blk_cell BK294.out 3).trans rfl; have hcz111_4 : w110.cell? ⟨gb294, 4, none⟩ = some (.int .i64 a0_4) := (blk_cell BK294.out 4).trans rfl; have hfz111_0 := blk_frozen BK294.out 0; have hfz111_1 := blk_frozen BK294.out 1; have hfz111_2 := blk_frozen BK294.out 2; have hfz111_3 := blk_frozen BK294.out 3; have hfz111_4 := blk_frozen BK294.out 4) | ((with_reducible refine gate_callee (f := 34) rfl ?_); refine goesL_ (some 5) rfl rfl Try.func34 (by kernel_rfl) rfl #[.int .i64 a0_0] rfl (by (try simp only [List.map_toArray, List.map_cons, List.map_nil]); first | done | rfl | (simp only [List.length_drop, List.length_take]; rfl)) ?_; (with_reducible refine (spliceref02_three.calls a0_0 false _ A2.out).mono ?_); rintro e w' ⟨rfl, ⟨nd, rfl⟩⟩; refine ⟨_, rfl, ?_⟩) | ((with_reducible refine gate_callee (f := 35) rfl ?_); refine goesL_ (some 29) rfl rfl Try.func35 (by kernel_rfl) rfl #[.int .i64 a0_0] rfl (by (try simp only [List.map_toArray, List.map_cons, List.map_nil]); first | done | rfl | (simp only [List.length_drop, List.length_take]; rfl)) ?_; (with_reducible refine (spliceref02_near.calls a0_0 false _ A19.out).mono ?_); rintro e w' ⟨rfl, ⟨nd, rfl⟩⟩; refine ⟨_, rfl, ?_⟩) | ((with_reducible refine gate_callee (f := 36) rfl ?_); refine goesL_ (some 71) rfl rfl Try.func36 (by kernel_rfl) rfl #[.int .i64 a0_0] rfl (by (try simp only [List.map_toArray, List.map_cons, List.map_nil]); first | done | rfl | (simp only [List.length_drop, List.length_take]; rfl)) ?_; (with_reducible refine (spliceref02_branch.calls a0_0 false _ A48.out).mono ?_); rintro e w' ⟨rfl, ⟨nd, rfl⟩⟩; refine ⟨_, rfl, ?_⟩) | ((with_reducible refine gate_callee (f := 52) rfl ?_); refine goesL_ (some 111) rfl rfl Try.func52 (by kernel_rfl) rfl #[.int .i64 a0_0] rfl (by (try simp only [List.map_toArray, List.map_cons, List.map_nil]); first | done | rfl | (simp only [List.length_drop, List.length_take]; rfl)) ?_; (with_reducible refine (spliceref02_one.calls a0_0 false _ A74.out).mono ?_); rintro e w' ⟨rfl, ⟨nd, rfl⟩⟩; refine ⟨_, rfl, ?_⟩) | ((with_reducible refine gate_callee (f := 32) rfl ?_); refine goesL_ (some 122) rfl rfl Try.func32 (by kernel_rfl) rfl #[.int .i64 a0_0] rfl (by (try simp only [List.map_toArray, List.map_cons, List.map_nil]); first | done | rfl | (simp only [List.length_drop, List.length_take]; rfl)) ?_; (with_reducible refine (spliceref02_far.calls a0_0 false _ A82.out).mono ?_); rintro e w' ⟨rfl, ⟨nd, rfl⟩⟩; refine ⟨_, rfl, ?_⟩))
             go_ret
             exact ⟨by first | rfl | (simp [errW_none, errW_some] <;> rfl) | (simp [*, errW_none, errW_some] <;> rfl), by repeat (first | (with_reducible first | exact HB.out | apply below_alloc | apply pw_below_drewN | apply below_drew1 | refine below_set ?_ GE294.out) | exact HB.out)⟩
      ·
       rw [if_neg c63] at H
       have c63b0 : (a0_2 == 0) = false := beq_eq_false_iff_ne.mpr c63
       have c63b1 : (a0_2 != 0) = true := bne_iff_ne.mpr c63
       obtain rfl := Option.some.inj H
       go_enter Try.func37, Try.ntmps37
       go_wp2_with (first | ((with_reducible refine gate_dst (N := 1) rfl ?_); refine box_event ?hg (N := 1) ?hd (cs := #[.int .i64 a0_0, .int .i64 a0_1, .int .i64 a0_2, .int .i64 a0_3, .int .i64 a0_4]) (t := 40) ?hr ?_; (case hd => rfl); (case hg => rfl); (case hr => first | (go_simp; done) | (go_simp; rfl)); intro gb294 hg w112 hbox hb; have n0_ := Aside0.mk (below_step (by repeat (first | (with_reducible first | exact HB.out | apply below_alloc | apply pw_below_drewN | apply below_drew1) | exact HB.out)) hb); have n1_ := Aside0.mk (hbox); have n2_ := Aside0.mk ((by rw [hg]; exact (below_size (by repeat (first | (with_reducible first | exact HB.out | apply below_alloc | apply pw_below_drewN | apply below_drew1) | exact HB.out))) : w.heap.size ≤ gb294)); have n3_ := Aside0.mk ((by rw [hg]; exact (below_size (by repeat (first | (with_reducible first | exact HB.out | apply below_alloc | apply pw_below_drewN | apply below_drew1) | exact HB.out))) : w.heap.size ≤ gb294)); clear HB; have HB := n0_; have BK294 := n1_; have GW294 := n2_; have GE294 := n3_; clear n0_ n1_ n2_ n3_; clear hb hbox hg; have hcz113_0 : w112.cell? ⟨gb294, 0, none⟩ = some (.int .i64 a0_0) := (blk_cell BK294.out 0).trans rfl; have hcz113_1 : w112.cell? ⟨gb294, 1, none⟩ = some (.int .i64 a0_1) := (blk_cell BK294.out 1).trans rfl; have hcz113_2 : w112.cell? ⟨gb294, 2, none⟩ = some (.int .i64 a0_2) := (blk_cell BK294.out 2).trans rfl; have hcz113_3 : w112.cell? ⟨gb294, 3, none⟩ = some (.int .i64 a0_3) := (blk_cell BK294.out 3).trans rfl; have hcz113_4 : w112.cell? ⟨gb294, 4, none⟩ = some (.int .i64 a0_4) := (blk_cell BK294.out 4).trans rfl; have hfz113_0 := blk_frozen BK294.out 0; have hfz113_1 := blk_frozen BK294.out 1; have hfz113_2 := blk_frozen BK294.out 2; have hfz113_3 := blk_frozen BK294.out 3; have hfz113_4 := blk_frozen BK294.out 4) | ((with_reducible refine gate_callee (f := 34) rfl ?_); refine goesL_ (some 5) rfl rfl Try.func34 (by kernel_rfl) rfl #[.int .i64 a0_0] rfl (by (try simp only [List.map_toArray, List.map_cons, List.map_nil]); first | done | rfl | (simp only [List.length_drop, List.length_take]; rfl)) ?_; (with_reducible refine (spliceref02_three.calls a0_0 false _ A2.out).mono ?_); rintro e w' ⟨rfl, ⟨nd, rfl⟩⟩; refine ⟨_, rfl, ?_⟩) | ((with_reducible refine gate_callee (f := 35) rfl ?_); refine goesL_ (some 29) rfl rfl Try.func35 (by kernel_rfl) rfl #[.int .i64 a0_0] rfl (by (try simp only [List.map_toArray, List.map_cons, List.map_nil]); first | done | rfl | (simp only [List.length_drop, List.length_take]; rfl)) ?_; (with_reducible refine (spliceref02_near.calls a0_0 false _ A19.out).mono ?_); rintro e w' ⟨rfl, ⟨nd, rfl⟩⟩; refine ⟨_, rfl, ?_⟩) | ((with_reducible refine gate_callee (f := 36) rfl ?_); refine goesL_ (some 71) rfl rfl Try.func36 (by kernel_rfl) rfl #[.int .i64 a0_0] rfl (by (try simp only [List.map_toArray, List.map_cons, List.map_nil]); first | done | rfl | (simp only [List.length_drop, List.length_take]; rfl)) ?_; (with_reducible refine (spliceref02_branch.calls a0_0 false _ A48.out).mono ?_); rintro e w' ⟨rfl, ⟨nd, rfl⟩⟩; refine ⟨_, rfl, ?_⟩))
       go_ret
       exact ⟨by first | rfl | (simp [errW_none, errW_some] <;> rfl) | (simp [*, errW_none, errW_some] <;> rfl), by repeat (first | (with_reducible first | exact HB.out | apply below_alloc | apply pw_below_drewN | apply below_drew1 | refine below_set ?_ GE294.out) | exact HB.out)⟩
  ·
   rw [if_neg c18] at H
   have c18b0 : (a0_3 == 0) = false := beq_eq_false_iff_ne.mpr c18
   have c18b1 : (a0_3 != 0) = true := bne_iff_ne.mpr c18
   obtain rfl := Option.some.inj H
   go_enter Try.func37, Try.ntmps37
   go_wp2_with (first | ((with_reducible refine gate_dst (N := 1) rfl ?_); refine box_event ?hg (N := 1) ?hd (cs := #[.int .i64 a0_0, .int .i64 a0_1, .int .i64 a0_2, .int .i64 a0_3, .int .i64 a0_4]) (t := 40) ?hr ?_; (case hd => rfl); (case hg => rfl); (case hr => first | (go_simp; done) | (go_simp; rfl)); intro gb294 hg w114 hbox hb; have n0_ := Aside0.mk (below_step (by repeat (first | (with_reducible first | exact HB.out | apply below_alloc | apply pw_below_drewN | apply below_drew1) | exact HB.out)) hb); have n1_ := Aside0.mk (hbox); have n2_ := Aside0.mk ((by rw [hg]; exact (below_size (by repeat (first | (with_reducible first | exact HB.out | apply below_alloc | apply pw_below_drewN | apply below_drew1) | exact HB.out))) : w.heap.size ≤ gb294)); have n3_ := Aside0.mk ((by rw [hg]; exact (below_size (by repeat (first | (with_reducible first | exact HB.out | apply below_alloc | apply pw_below_drewN | apply below_drew1) | exact HB.out))) : w.heap.size ≤ gb294)); clear HB; have HB := n0_; have BK294 := n1_; have GW294 := n2_; have GE294 := n3_; clear n0_ n1_ n2_ n3_; clear hb hbox hg; have hcz115_0 : w114.cell? ⟨gb294, 0, none⟩ = some (.int .i64 a0_0) := (blk_cell BK294.out 0).trans rfl; have hcz115_1 : w114.cell? ⟨gb294, 1, none⟩ = some (.int .i64 a0_1) := (blk_cell BK294.out 1).trans rfl; have hcz115_2 : w114.cell? ⟨gb294, 2, none⟩ = some (.int .i64 a0_2) := (blk_cell BK294.out 2).trans rfl; have hcz115_3 : w114.cell? ⟨gb294, 3, none⟩ = some (.int .i64 a0_3) := (blk_cell BK294.out 3).trans rfl; have hcz115_4 : w114.cell? ⟨gb294, 4, none⟩ = some (.int .i64 a0_4) := (blk_cell BK294.out 4).trans rfl; have hfz115_0 := blk_frozen BK294.out 0; have hfz115_1 := blk_frozen BK294.out 1; have hfz115_2 := blk_frozen BK294.out 2; have hfz115_3 := blk_frozen BK294.out 3; have hfz115_4 := blk_frozen BK294.out 4) | ((with_reducible refine gate_callee (f := 34) rfl ?_); refine goesL_ (some 5) rfl rfl Try.func34 (by kernel_rfl) rfl #[.int .i64 a0_0] rfl (by (try simp only [List.map_toArray, List.map_cons, List.map_nil]); first | done | rfl | (simp only [List.length_drop, List.length_take]; rfl)) ?_; (with_reducible refine (spliceref02_three.calls a0_0 false _ A2.out).mono ?_); rintro e w' ⟨rfl, ⟨nd, rfl⟩⟩; refine ⟨_, rfl, ?_⟩))
   go_ret
   exact ⟨by first | rfl | (simp [errW_none, errW_some] <;> rfl) | (simp [*, errW_none, errW_some] <;> rfl), by repeat (first | (with_reducible first | exact HB.out | apply below_alloc | apply pw_below_drewN | apply below_drew1 | refine below_set ?_ GE294.out) | exact HB.out)⟩

end Go.Proofs.Ytgaggfekgkedpaa.Q
end
section
/- The reference's Get: a word's instruction, or that it is that of none: its contract by hand, kind by kind. Written by gen_rget.py, a program of this session. -/
namespace Go.Proofs.Ytgaggfekgkedpaa.Q
open Go.RowKit Go.Proofs.YtgaggfekgkedpaaW.PrintWords Go.Proofs.YtgaggfekgkedpaaW.PrintLast Go.Proofs.YtgaggfekgkedpaaW.PrintMore Go.Proofs.Ytgaggfekgkedpaa.Code
set_option linter.unusedVariables false
set_option linter.unusedSimpArgs false
theorem call2 {P : Program} {f : FuncId} {args : Array Value} {W w0 : World} {B g0 g1 : Nat} {o0 o1 : Obj} {v : Value} {K : Ending → World → Prop}
    (hc : Calls P f args W fun e w' => e = .returned v ∧ Below W.heap.size W w') (hB : Below B w0 W) (hle : B ≤ W.heap.size) (h0 : W.heap[g0]? = some o0) (h1 : W.heap[g1]? = some o1)
    (k : ∀ w1, Aside0 (Below B w0 w1) → Aside0 (w1.heap[g0]? = some o0) → Aside0 (w1.heap[g1]? = some o1) → K (.returned v) w1) : Calls P f args W K := by
  refine hc.mono ?_
  rintro e w1 ⟨rfl, hb⟩
  exact k w1 ⟨below_then hB hle hb⟩ ⟨blk_below h0 hb⟩ ⟨blk_below h1 hb⟩
set_option maxHeartbeats 1000000 in
set_option maxRecDepth 100000 in
theorem rget_three (k : Nat) (a0 s : Int) (r : Bool) (w : World) (b0 : 0 ≤ a0) (b1 : a0 ≤ 4294967295) (F0 : Aside0 (spliceref02_far.f (a0 / 16777216) = some false)) (F1 : Aside0 (spliceref02_three.f (a0 / 16777216) = some true)) (F2 : Aside0 (spliceref02_Right.f (a0 / 16777216) (a0 / 1048576 % 16) (a0 / 65536 % 16) (a0 % 65536) 0 = some r)) :
    Calls Try.prog 14 #[.int .u32 a0] w fun e w' => e = .returned (if r = true then .tuple #[.agg #[.int .i64 (a0 / 16777216), .int .i64 (a0 / 1048576 % 16), .int .i64 (a0 / 65536 % 16), .int .i64 (a0 % 65536), .int .i64 0], .bool true] else .tuple #[.agg #[.int .i64 0, .int .i64 0, .int .i64 0, .int .i64 0, .int .i64 0], .bool false]) ∧ Below w.heap.size w w' := by
  go_enter Try.func14, Try.ntmps14
  go_wp2_with (first | (go_at_call 32; refine (spliceref02_far.calls _ _ _ F0.out).mono ?_; rintro e w' ⟨rfl, ⟨nd, rfl⟩⟩) | (go_at_call 34; refine (spliceref02_three.calls _ _ _ F1.out).mono ?_; rintro e w' ⟨rfl, ⟨nd, rfl⟩⟩))
  refine call2 (g0 := w.heap.size) (g1 := w.heap.size + 1) (o0 := .cells #[.int .i64 0, .int .i64 0, .int .i64 0, .int .i64 0, .int .i64 0] 40 (0, 0)) (o1 := .cells #[.int .i64 (a0 / 16777216), .int .i64 (a0 / 1048576 % 16), .int .i64 (a0 / 65536 % 16), .int .i64 (a0 % 65536), .int .i64 0] 40 (0, 0)) (spliceref02_Right.calls _ _ _ _ _ _ _ F2.out) (B := w.heap.size) (w0 := w) ?hB ?hle ?h0 ?h1 ?_
  case hB => repeat (with_reducible first | exact Below.refl _ _ | refine below_set ?_ (Nat.le_succ _) | apply below_alloc | apply pw_below_drewN | apply below_drew1)
  case hle => simp; omega
  case h0 =>
    repeat (with_reducible first | refine blk_drewN ?_ _ | refine blk_drew ?_ | refine blk_far ?_ (Nat.ne_of_lt (Nat.lt_succ_self _)) _)
    exact heap_alloc2_old _ _ _
  case h1 =>
    (with_reducible repeat (first | refine blk_drewN ?_ _ | refine blk_drew ?_))
    refine blk_put (cs := #[.int .i64 (a0 / 16777216), .int .i64 (a0 / 1048576 % 16), .int .i64 (a0 / 65536 % 16), .int .i64 0, .int .i64 0]) ?_ 3 _ rfl
    (with_reducible repeat (first | refine blk_drewN ?_ _ | refine blk_drew ?_))
    refine blk_put (cs := #[.int .i64 (a0 / 16777216), .int .i64 (a0 / 1048576 % 16), .int .i64 0, .int .i64 0, .int .i64 0]) ?_ 2 _ rfl
    (with_reducible repeat (first | refine blk_drewN ?_ _ | refine blk_drew ?_))
    refine blk_put (cs := #[.int .i64 (a0 / 16777216), .int .i64 0, .int .i64 0, .int .i64 0, .int .i64 0]) ?_ 1 _ rfl
    (with_reducible repeat (first | refine blk_drewN ?_ _ | refine blk_drew ?_))
    exact heap_alloc2_new _ _ _
  intro w1 HB B0 B1
  have hcz0 : w1.cell? ⟨w.heap.size + 1, 0, none⟩ = some (.int .i64 (a0 / 16777216)) := (blk_cell B1.out 0).trans rfl
  have hcy0 : w1.cell? ⟨w.heap.size, 0, none⟩ = some (.int .i64 0) := (blk_cell B0.out 0).trans rfl
  have hfz0 := blk_frozen B0.out 0
  have hcz1 : w1.cell? ⟨w.heap.size + 1, 1, none⟩ = some (.int .i64 (a0 / 1048576 % 16)) := (blk_cell B1.out 1).trans rfl
  have hcy1 : w1.cell? ⟨w.heap.size, 1, none⟩ = some (.int .i64 0) := (blk_cell B0.out 1).trans rfl
  have hfz1 := blk_frozen B0.out 1
  have hcz2 : w1.cell? ⟨w.heap.size + 1, 2, none⟩ = some (.int .i64 (a0 / 65536 % 16)) := (blk_cell B1.out 2).trans rfl
  have hcy2 : w1.cell? ⟨w.heap.size, 2, none⟩ = some (.int .i64 0) := (blk_cell B0.out 2).trans rfl
  have hfz2 := blk_frozen B0.out 2
  have hcz3 : w1.cell? ⟨w.heap.size + 1, 3, none⟩ = some (.int .i64 (a0 % 65536)) := (blk_cell B1.out 3).trans rfl
  have hcy3 : w1.cell? ⟨w.heap.size, 3, none⟩ = some (.int .i64 0) := (blk_cell B0.out 3).trans rfl
  have hfz3 := blk_frozen B0.out 3
  have hcz4 : w1.cell? ⟨w.heap.size + 1, 4, none⟩ = some (.int .i64 0) := (blk_cell B1.out 4).trans rfl
  have hcy4 : w1.cell? ⟨w.heap.size, 4, none⟩ = some (.int .i64 0) := (blk_cell B0.out 4).trans rfl
  have hfz4 := blk_frozen B0.out 4
  cases r
  ·
    go_wp2
    refine bodyPost_ret (results_ct rfl _ _ w.heap.size 40 #[.int .i64 0, .int .i64 0, .int .i64 0, .int .i64 0, .int .i64 0] (0, 0) _ rfl ?hgfalse Try.underlying40 rfl (by kernel_rfl)) rfl ?_
    case hgfalse =>
      refine blk_put (cs := #[.int .i64 0, .int .i64 0, .int .i64 0, .int .i64 0, .int .i64 0]) ?_ 4 _ rfl
      refine blk_put (cs := #[.int .i64 0, .int .i64 0, .int .i64 0, .int .i64 0, .int .i64 0]) ?_ 3 _ rfl
      refine blk_put (cs := #[.int .i64 0, .int .i64 0, .int .i64 0, .int .i64 0, .int .i64 0]) ?_ 2 _ rfl
      refine blk_put (cs := #[.int .i64 0, .int .i64 0, .int .i64 0, .int .i64 0, .int .i64 0]) ?_ 1 _ rfl
      refine blk_put (cs := #[.int .i64 0, .int .i64 0, .int .i64 0, .int .i64 0, .int .i64 0]) ?_ 0 _ rfl
      exact B0.out
    exact ⟨rfl, by repeat (with_reducible first | exact HB.out | refine below_set ?_ (Nat.le_refl _))⟩
  ·
    go_wp2
    refine bodyPost_ret (results_ct rfl _ _ w.heap.size 40 #[.int .i64 (a0 / 16777216), .int .i64 (a0 / 1048576 % 16), .int .i64 (a0 / 65536 % 16), .int .i64 (a0 % 65536), .int .i64 0] (0, 0) _ rfl ?hgtrue Try.underlying40 rfl (by kernel_rfl)) rfl ?_
    case hgtrue =>
      refine blk_put (cs := #[.int .i64 (a0 / 16777216), .int .i64 (a0 / 1048576 % 16), .int .i64 (a0 / 65536 % 16), .int .i64 (a0 % 65536), .int .i64 0]) ?_ 4 _ rfl
      refine blk_put (cs := #[.int .i64 (a0 / 16777216), .int .i64 (a0 / 1048576 % 16), .int .i64 (a0 / 65536 % 16), .int .i64 0, .int .i64 0]) ?_ 3 _ rfl
      refine blk_put (cs := #[.int .i64 (a0 / 16777216), .int .i64 (a0 / 1048576 % 16), .int .i64 0, .int .i64 0, .int .i64 0]) ?_ 2 _ rfl
      refine blk_put (cs := #[.int .i64 (a0 / 16777216), .int .i64 0, .int .i64 0, .int .i64 0, .int .i64 0]) ?_ 1 _ rfl
      refine blk_put (cs := #[.int .i64 0, .int .i64 0, .int .i64 0, .int .i64 0, .int .i64 0]) ?_ 0 _ rfl
      exact B0.out
    exact ⟨rfl, by repeat (with_reducible first | exact HB.out | refine below_set ?_ (Nat.le_refl _))⟩
set_option maxHeartbeats 1000000 in
set_option maxRecDepth 100000 in
theorem rget_near (k : Nat) (a0 s : Int) (r : Bool) (w : World) (b0 : 0 ≤ a0) (b1 : a0 ≤ 4294967295) (F0 : Aside0 (spliceref02_far.f (a0 / 16777216) = some false)) (F1 : Aside0 (spliceref02_three.f (a0 / 16777216) = some false)) (F2 : Aside0 (spliceref02_near.f (a0 / 16777216) = some true)) (F3 : Aside0 (spliceref01_Sign.f k a0 16 = some s)) (F4 : Aside0 (spliceref02_Right.f (a0 / 16777216) (a0 / 1048576 % 16) (a0 / 65536 % 16) 0 s = some r)) :
    Calls Try.prog 14 #[.int .u32 a0] w fun e w' => e = .returned (if r = true then .tuple #[.agg #[.int .i64 (a0 / 16777216), .int .i64 (a0 / 1048576 % 16), .int .i64 (a0 / 65536 % 16), .int .i64 0, .int .i64 s], .bool true] else .tuple #[.agg #[.int .i64 0, .int .i64 0, .int .i64 0, .int .i64 0, .int .i64 0], .bool false]) ∧ Below w.heap.size w w' := by
  go_enter Try.func14, Try.ntmps14
  go_wp2_with (first | (go_at_call 32; refine (spliceref02_far.calls _ _ _ F0.out).mono ?_; rintro e w' ⟨rfl, ⟨nd, rfl⟩⟩) | (go_at_call 34; refine (spliceref02_three.calls _ _ _ F1.out).mono ?_; rintro e w' ⟨rfl, ⟨nd, rfl⟩⟩) | (go_at_call 35; refine (spliceref02_near.calls _ _ _ F2.out).mono ?_; rintro e w' ⟨rfl, ⟨nd, rfl⟩⟩) | (go_at_call 33; refine (spliceref01_Sign.calls _ _ _ _ _ F3.out).mono ?_; rintro e w' ⟨rfl, ⟨nd, rfl⟩⟩))
  refine call2 (g0 := w.heap.size) (g1 := w.heap.size + 1) (o0 := .cells #[.int .i64 0, .int .i64 0, .int .i64 0, .int .i64 0, .int .i64 0] 40 (0, 0)) (o1 := .cells #[.int .i64 (a0 / 16777216), .int .i64 (a0 / 1048576 % 16), .int .i64 (a0 / 65536 % 16), .int .i64 0, .int .i64 s] 40 (0, 0)) (spliceref02_Right.calls _ _ _ _ _ _ _ F4.out) (B := w.heap.size) (w0 := w) ?hB ?hle ?h0 ?h1 ?_
  case hB => repeat (with_reducible first | exact Below.refl _ _ | refine below_set ?_ (Nat.le_succ _) | apply below_alloc | apply pw_below_drewN | apply below_drew1)
  case hle => simp; omega
  case h0 =>
    repeat (with_reducible first | refine blk_drewN ?_ _ | refine blk_drew ?_ | refine blk_far ?_ (Nat.ne_of_lt (Nat.lt_succ_self _)) _)
    exact heap_alloc2_old _ _ _
  case h1 =>
    (with_reducible repeat (first | refine blk_drewN ?_ _ | refine blk_drew ?_))
    refine blk_put (cs := #[.int .i64 (a0 / 16777216), .int .i64 (a0 / 1048576 % 16), .int .i64 (a0 / 65536 % 16), .int .i64 0, .int .i64 0]) ?_ 4 _ rfl
    (with_reducible repeat (first | refine blk_drewN ?_ _ | refine blk_drew ?_))
    refine blk_put (cs := #[.int .i64 (a0 / 16777216), .int .i64 (a0 / 1048576 % 16), .int .i64 0, .int .i64 0, .int .i64 0]) ?_ 2 _ rfl
    (with_reducible repeat (first | refine blk_drewN ?_ _ | refine blk_drew ?_))
    refine blk_put (cs := #[.int .i64 (a0 / 16777216), .int .i64 0, .int .i64 0, .int .i64 0, .int .i64 0]) ?_ 1 _ rfl
    (with_reducible repeat (first | refine blk_drewN ?_ _ | refine blk_drew ?_))
    exact heap_alloc2_new _ _ _
  intro w1 HB B0 B1
  have hcz0 : w1.cell? ⟨w.heap.size + 1, 0, none⟩ = some (.int .i64 (a0 / 16777216)) := (blk_cell B1.out 0).trans rfl
  have hcy0 : w1.cell? ⟨w.heap.size, 0, none⟩ = some (.int .i64 0) := (blk_cell B0.out 0).trans rfl
  have hfz0 := blk_frozen B0.out 0
  have hcz1 : w1.cell? ⟨w.heap.size + 1, 1, none⟩ = some (.int .i64 (a0 / 1048576 % 16)) := (blk_cell B1.out 1).trans rfl
  have hcy1 : w1.cell? ⟨w.heap.size, 1, none⟩ = some (.int .i64 0) := (blk_cell B0.out 1).trans rfl
  have hfz1 := blk_frozen B0.out 1
  have hcz2 : w1.cell? ⟨w.heap.size + 1, 2, none⟩ = some (.int .i64 (a0 / 65536 % 16)) := (blk_cell B1.out 2).trans rfl
  have hcy2 : w1.cell? ⟨w.heap.size, 2, none⟩ = some (.int .i64 0) := (blk_cell B0.out 2).trans rfl
  have hfz2 := blk_frozen B0.out 2
  have hcz3 : w1.cell? ⟨w.heap.size + 1, 3, none⟩ = some (.int .i64 0) := (blk_cell B1.out 3).trans rfl
  have hcy3 : w1.cell? ⟨w.heap.size, 3, none⟩ = some (.int .i64 0) := (blk_cell B0.out 3).trans rfl
  have hfz3 := blk_frozen B0.out 3
  have hcz4 : w1.cell? ⟨w.heap.size + 1, 4, none⟩ = some (.int .i64 s) := (blk_cell B1.out 4).trans rfl
  have hcy4 : w1.cell? ⟨w.heap.size, 4, none⟩ = some (.int .i64 0) := (blk_cell B0.out 4).trans rfl
  have hfz4 := blk_frozen B0.out 4
  cases r
  ·
    go_wp2
    refine bodyPost_ret (results_ct rfl _ _ w.heap.size 40 #[.int .i64 0, .int .i64 0, .int .i64 0, .int .i64 0, .int .i64 0] (0, 0) _ rfl ?hgfalse Try.underlying40 rfl (by kernel_rfl)) rfl ?_
    case hgfalse =>
      refine blk_put (cs := #[.int .i64 0, .int .i64 0, .int .i64 0, .int .i64 0, .int .i64 0]) ?_ 4 _ rfl
      refine blk_put (cs := #[.int .i64 0, .int .i64 0, .int .i64 0, .int .i64 0, .int .i64 0]) ?_ 3 _ rfl
      refine blk_put (cs := #[.int .i64 0, .int .i64 0, .int .i64 0, .int .i64 0, .int .i64 0]) ?_ 2 _ rfl
      refine blk_put (cs := #[.int .i64 0, .int .i64 0, .int .i64 0, .int .i64 0, .int .i64 0]) ?_ 1 _ rfl
      refine blk_put (cs := #[.int .i64 0, .int .i64 0, .int .i64 0, .int .i64 0, .int .i64 0]) ?_ 0 _ rfl
      exact B0.out
    exact ⟨rfl, by repeat (with_reducible first | exact HB.out | refine below_set ?_ (Nat.le_refl _))⟩
  ·
    go_wp2
    refine bodyPost_ret (results_ct rfl _ _ w.heap.size 40 #[.int .i64 (a0 / 16777216), .int .i64 (a0 / 1048576 % 16), .int .i64 (a0 / 65536 % 16), .int .i64 0, .int .i64 s] (0, 0) _ rfl ?hgtrue Try.underlying40 rfl (by kernel_rfl)) rfl ?_
    case hgtrue =>
      refine blk_put (cs := #[.int .i64 (a0 / 16777216), .int .i64 (a0 / 1048576 % 16), .int .i64 (a0 / 65536 % 16), .int .i64 0, .int .i64 0]) ?_ 4 _ rfl
      refine blk_put (cs := #[.int .i64 (a0 / 16777216), .int .i64 (a0 / 1048576 % 16), .int .i64 (a0 / 65536 % 16), .int .i64 0, .int .i64 0]) ?_ 3 _ rfl
      refine blk_put (cs := #[.int .i64 (a0 / 16777216), .int .i64 (a0 / 1048576 % 16), .int .i64 0, .int .i64 0, .int .i64 0]) ?_ 2 _ rfl
      refine blk_put (cs := #[.int .i64 (a0 / 16777216), .int .i64 0, .int .i64 0, .int .i64 0, .int .i64 0]) ?_ 1 _ rfl
      refine blk_put (cs := #[.int .i64 0, .int .i64 0, .int .i64 0, .int .i64 0, .int .i64 0]) ?_ 0 _ rfl
      exact B0.out
    exact ⟨rfl, by repeat (with_reducible first | exact HB.out | refine below_set ?_ (Nat.le_refl _))⟩
set_option maxHeartbeats 1000000 in
set_option maxRecDepth 100000 in
theorem rget_branch (k : Nat) (a0 s : Int) (r : Bool) (w : World) (b0 : 0 ≤ a0) (b1 : a0 ≤ 4294967295) (t0 : decide (255 < a0 % 65536) = false) (F0 : Aside0 (spliceref02_far.f (a0 / 16777216) = some false)) (F1 : Aside0 (spliceref02_three.f (a0 / 16777216) = some false)) (F2 : Aside0 (spliceref02_near.f (a0 / 16777216) = some false)) (F3 : Aside0 (spliceref02_branch.f (a0 / 16777216) = some true)) (F4 : Aside0 (spliceref01_Sign.f k a0 8 = some s)) (F5 : Aside0 (spliceref02_Right.f (a0 / 16777216) (a0 / 1048576 % 16) (a0 / 65536 % 16) 0 s = some r)) :
    Calls Try.prog 14 #[.int .u32 a0] w fun e w' => e = .returned (if r = true then .tuple #[.agg #[.int .i64 (a0 / 16777216), .int .i64 (a0 / 1048576 % 16), .int .i64 (a0 / 65536 % 16), .int .i64 0, .int .i64 s], .bool true] else .tuple #[.agg #[.int .i64 0, .int .i64 0, .int .i64 0, .int .i64 0, .int .i64 0], .bool false]) ∧ Below w.heap.size w w' := by
  go_enter Try.func14, Try.ntmps14
  go_wp2_with (first | (go_at_call 32; refine (spliceref02_far.calls _ _ _ F0.out).mono ?_; rintro e w' ⟨rfl, ⟨nd, rfl⟩⟩) | (go_at_call 34; refine (spliceref02_three.calls _ _ _ F1.out).mono ?_; rintro e w' ⟨rfl, ⟨nd, rfl⟩⟩) | (go_at_call 35; refine (spliceref02_near.calls _ _ _ F2.out).mono ?_; rintro e w' ⟨rfl, ⟨nd, rfl⟩⟩) | (go_at_call 36; refine (spliceref02_branch.calls _ _ _ F3.out).mono ?_; rintro e w' ⟨rfl, ⟨nd, rfl⟩⟩) | (go_at_call 33; refine (spliceref01_Sign.calls _ _ _ _ _ F4.out).mono ?_; rintro e w' ⟨rfl, ⟨nd, rfl⟩⟩))
  refine call2 (g0 := w.heap.size) (g1 := w.heap.size + 1) (o0 := .cells #[.int .i64 0, .int .i64 0, .int .i64 0, .int .i64 0, .int .i64 0] 40 (0, 0)) (o1 := .cells #[.int .i64 (a0 / 16777216), .int .i64 (a0 / 1048576 % 16), .int .i64 (a0 / 65536 % 16), .int .i64 0, .int .i64 s] 40 (0, 0)) (spliceref02_Right.calls _ _ _ _ _ _ _ F5.out) (B := w.heap.size) (w0 := w) ?hB ?hle ?h0 ?h1 ?_
  case hB => repeat (with_reducible first | exact Below.refl _ _ | refine below_set ?_ (Nat.le_succ _) | apply below_alloc | apply pw_below_drewN | apply below_drew1)
  case hle => simp; omega
  case h0 =>
    repeat (with_reducible first | refine blk_drewN ?_ _ | refine blk_drew ?_ | refine blk_far ?_ (Nat.ne_of_lt (Nat.lt_succ_self _)) _)
    exact heap_alloc2_old _ _ _
  case h1 =>
    (with_reducible repeat (first | refine blk_drewN ?_ _ | refine blk_drew ?_))
    refine blk_put (cs := #[.int .i64 (a0 / 16777216), .int .i64 (a0 / 1048576 % 16), .int .i64 (a0 / 65536 % 16), .int .i64 0, .int .i64 0]) ?_ 4 _ rfl
    (with_reducible repeat (first | refine blk_drewN ?_ _ | refine blk_drew ?_))
    refine blk_put (cs := #[.int .i64 (a0 / 16777216), .int .i64 (a0 / 1048576 % 16), .int .i64 0, .int .i64 0, .int .i64 0]) ?_ 2 _ rfl
    (with_reducible repeat (first | refine blk_drewN ?_ _ | refine blk_drew ?_))
    refine blk_put (cs := #[.int .i64 (a0 / 16777216), .int .i64 0, .int .i64 0, .int .i64 0, .int .i64 0]) ?_ 1 _ rfl
    (with_reducible repeat (first | refine blk_drewN ?_ _ | refine blk_drew ?_))
    exact heap_alloc2_new _ _ _
  intro w1 HB B0 B1
  have hcz0 : w1.cell? ⟨w.heap.size + 1, 0, none⟩ = some (.int .i64 (a0 / 16777216)) := (blk_cell B1.out 0).trans rfl
  have hcy0 : w1.cell? ⟨w.heap.size, 0, none⟩ = some (.int .i64 0) := (blk_cell B0.out 0).trans rfl
  have hfz0 := blk_frozen B0.out 0
  have hcz1 : w1.cell? ⟨w.heap.size + 1, 1, none⟩ = some (.int .i64 (a0 / 1048576 % 16)) := (blk_cell B1.out 1).trans rfl
  have hcy1 : w1.cell? ⟨w.heap.size, 1, none⟩ = some (.int .i64 0) := (blk_cell B0.out 1).trans rfl
  have hfz1 := blk_frozen B0.out 1
  have hcz2 : w1.cell? ⟨w.heap.size + 1, 2, none⟩ = some (.int .i64 (a0 / 65536 % 16)) := (blk_cell B1.out 2).trans rfl
  have hcy2 : w1.cell? ⟨w.heap.size, 2, none⟩ = some (.int .i64 0) := (blk_cell B0.out 2).trans rfl
  have hfz2 := blk_frozen B0.out 2
  have hcz3 : w1.cell? ⟨w.heap.size + 1, 3, none⟩ = some (.int .i64 0) := (blk_cell B1.out 3).trans rfl
  have hcy3 : w1.cell? ⟨w.heap.size, 3, none⟩ = some (.int .i64 0) := (blk_cell B0.out 3).trans rfl
  have hfz3 := blk_frozen B0.out 3
  have hcz4 : w1.cell? ⟨w.heap.size + 1, 4, none⟩ = some (.int .i64 s) := (blk_cell B1.out 4).trans rfl
  have hcy4 : w1.cell? ⟨w.heap.size, 4, none⟩ = some (.int .i64 0) := (blk_cell B0.out 4).trans rfl
  have hfz4 := blk_frozen B0.out 4
  cases r
  ·
    go_wp2
    refine bodyPost_ret (results_ct rfl _ _ w.heap.size 40 #[.int .i64 0, .int .i64 0, .int .i64 0, .int .i64 0, .int .i64 0] (0, 0) _ rfl ?hgfalse Try.underlying40 rfl (by kernel_rfl)) rfl ?_
    case hgfalse =>
      refine blk_put (cs := #[.int .i64 0, .int .i64 0, .int .i64 0, .int .i64 0, .int .i64 0]) ?_ 4 _ rfl
      refine blk_put (cs := #[.int .i64 0, .int .i64 0, .int .i64 0, .int .i64 0, .int .i64 0]) ?_ 3 _ rfl
      refine blk_put (cs := #[.int .i64 0, .int .i64 0, .int .i64 0, .int .i64 0, .int .i64 0]) ?_ 2 _ rfl
      refine blk_put (cs := #[.int .i64 0, .int .i64 0, .int .i64 0, .int .i64 0, .int .i64 0]) ?_ 1 _ rfl
      refine blk_put (cs := #[.int .i64 0, .int .i64 0, .int .i64 0, .int .i64 0, .int .i64 0]) ?_ 0 _ rfl
      exact B0.out
    exact ⟨rfl, by repeat (with_reducible first | exact HB.out | refine below_set ?_ (Nat.le_refl _))⟩
  ·
    go_wp2
    refine bodyPost_ret (results_ct rfl _ _ w.heap.size 40 #[.int .i64 (a0 / 16777216), .int .i64 (a0 / 1048576 % 16), .int .i64 (a0 / 65536 % 16), .int .i64 0, .int .i64 s] (0, 0) _ rfl ?hgtrue Try.underlying40 rfl (by kernel_rfl)) rfl ?_
    case hgtrue =>
      refine blk_put (cs := #[.int .i64 (a0 / 16777216), .int .i64 (a0 / 1048576 % 16), .int .i64 (a0 / 65536 % 16), .int .i64 0, .int .i64 0]) ?_ 4 _ rfl
      refine blk_put (cs := #[.int .i64 (a0 / 16777216), .int .i64 (a0 / 1048576 % 16), .int .i64 (a0 / 65536 % 16), .int .i64 0, .int .i64 0]) ?_ 3 _ rfl
      refine blk_put (cs := #[.int .i64 (a0 / 16777216), .int .i64 (a0 / 1048576 % 16), .int .i64 0, .int .i64 0, .int .i64 0]) ?_ 2 _ rfl
      refine blk_put (cs := #[.int .i64 (a0 / 16777216), .int .i64 0, .int .i64 0, .int .i64 0, .int .i64 0]) ?_ 1 _ rfl
      refine blk_put (cs := #[.int .i64 0, .int .i64 0, .int .i64 0, .int .i64 0, .int .i64 0]) ?_ 0 _ rfl
      exact B0.out
    exact ⟨rfl, by repeat (with_reducible first | exact HB.out | refine below_set ?_ (Nat.le_refl _))⟩
set_option maxHeartbeats 1000000 in
set_option maxRecDepth 100000 in
theorem rget_far (k : Nat) (a0 s : Int) (r : Bool) (w : World) (b0 : 0 ≤ a0) (b1 : a0 ≤ 4294967295) (F0 : Aside0 (spliceref02_far.f (a0 / 16777216) = some true)) (F1 : Aside0 (spliceref02_three.f (a0 / 16777216) = some false)) (F2 : Aside0 (spliceref02_near.f (a0 / 16777216) = some false)) (F3 : Aside0 (spliceref02_branch.f (a0 / 16777216) = some false)) (F4 : Aside0 (spliceref01_Sign.f k a0 24 = some s)) (F5 : Aside0 (spliceref02_Right.f (a0 / 16777216) 0 0 0 s = some r)) :
    Calls Try.prog 14 #[.int .u32 a0] w fun e w' => e = .returned (if r = true then .tuple #[.agg #[.int .i64 (a0 / 16777216), .int .i64 0, .int .i64 0, .int .i64 0, .int .i64 s], .bool true] else .tuple #[.agg #[.int .i64 0, .int .i64 0, .int .i64 0, .int .i64 0, .int .i64 0], .bool false]) ∧ Below w.heap.size w w' := by
  go_enter Try.func14, Try.ntmps14
  go_wp2_with (first | (go_at_call 32; refine (spliceref02_far.calls _ _ _ F0.out).mono ?_; rintro e w' ⟨rfl, ⟨nd, rfl⟩⟩) | (go_at_call 34; refine (spliceref02_three.calls _ _ _ F1.out).mono ?_; rintro e w' ⟨rfl, ⟨nd, rfl⟩⟩) | (go_at_call 35; refine (spliceref02_near.calls _ _ _ F2.out).mono ?_; rintro e w' ⟨rfl, ⟨nd, rfl⟩⟩) | (go_at_call 36; refine (spliceref02_branch.calls _ _ _ F3.out).mono ?_; rintro e w' ⟨rfl, ⟨nd, rfl⟩⟩) | (go_at_call 33; refine (spliceref01_Sign.calls _ _ _ _ _ F4.out).mono ?_; rintro e w' ⟨rfl, ⟨nd, rfl⟩⟩))
  refine call2 (g0 := w.heap.size) (g1 := w.heap.size + 1) (o0 := .cells #[.int .i64 0, .int .i64 0, .int .i64 0, .int .i64 0, .int .i64 0] 40 (0, 0)) (o1 := .cells #[.int .i64 (a0 / 16777216), .int .i64 0, .int .i64 0, .int .i64 0, .int .i64 s] 40 (0, 0)) (spliceref02_Right.calls _ _ _ _ _ _ _ F5.out) (B := w.heap.size) (w0 := w) ?hB ?hle ?h0 ?h1 ?_
  case hB => repeat (with_reducible first | exact Below.refl _ _ | refine below_set ?_ (Nat.le_succ _) | apply below_alloc | apply pw_below_drewN | apply below_drew1)
  case hle => simp; omega
  case h0 =>
    repeat (with_reducible first | refine blk_drewN ?_ _ | refine blk_drew ?_ | refine blk_far ?_ (Nat.ne_of_lt (Nat.lt_succ_self _)) _)
    exact heap_alloc2_old _ _ _
  case h1 =>
    (with_reducible repeat (first | refine blk_drewN ?_ _ | refine blk_drew ?_))
    refine blk_put (cs := #[.int .i64 (a0 / 16777216), .int .i64 0, .int .i64 0, .int .i64 0, .int .i64 0]) ?_ 4 _ rfl
    (with_reducible repeat (first | refine blk_drewN ?_ _ | refine blk_drew ?_))
    exact heap_alloc2_new _ _ _
  intro w1 HB B0 B1
  have hcz0 : w1.cell? ⟨w.heap.size + 1, 0, none⟩ = some (.int .i64 (a0 / 16777216)) := (blk_cell B1.out 0).trans rfl
  have hcy0 : w1.cell? ⟨w.heap.size, 0, none⟩ = some (.int .i64 0) := (blk_cell B0.out 0).trans rfl
  have hfz0 := blk_frozen B0.out 0
  have hcz1 : w1.cell? ⟨w.heap.size + 1, 1, none⟩ = some (.int .i64 0) := (blk_cell B1.out 1).trans rfl
  have hcy1 : w1.cell? ⟨w.heap.size, 1, none⟩ = some (.int .i64 0) := (blk_cell B0.out 1).trans rfl
  have hfz1 := blk_frozen B0.out 1
  have hcz2 : w1.cell? ⟨w.heap.size + 1, 2, none⟩ = some (.int .i64 0) := (blk_cell B1.out 2).trans rfl
  have hcy2 : w1.cell? ⟨w.heap.size, 2, none⟩ = some (.int .i64 0) := (blk_cell B0.out 2).trans rfl
  have hfz2 := blk_frozen B0.out 2
  have hcz3 : w1.cell? ⟨w.heap.size + 1, 3, none⟩ = some (.int .i64 0) := (blk_cell B1.out 3).trans rfl
  have hcy3 : w1.cell? ⟨w.heap.size, 3, none⟩ = some (.int .i64 0) := (blk_cell B0.out 3).trans rfl
  have hfz3 := blk_frozen B0.out 3
  have hcz4 : w1.cell? ⟨w.heap.size + 1, 4, none⟩ = some (.int .i64 s) := (blk_cell B1.out 4).trans rfl
  have hcy4 : w1.cell? ⟨w.heap.size, 4, none⟩ = some (.int .i64 0) := (blk_cell B0.out 4).trans rfl
  have hfz4 := blk_frozen B0.out 4
  cases r
  ·
    go_wp2
    refine bodyPost_ret (results_ct rfl _ _ w.heap.size 40 #[.int .i64 0, .int .i64 0, .int .i64 0, .int .i64 0, .int .i64 0] (0, 0) _ rfl ?hgfalse Try.underlying40 rfl (by kernel_rfl)) rfl ?_
    case hgfalse =>
      refine blk_put (cs := #[.int .i64 0, .int .i64 0, .int .i64 0, .int .i64 0, .int .i64 0]) ?_ 4 _ rfl
      refine blk_put (cs := #[.int .i64 0, .int .i64 0, .int .i64 0, .int .i64 0, .int .i64 0]) ?_ 3 _ rfl
      refine blk_put (cs := #[.int .i64 0, .int .i64 0, .int .i64 0, .int .i64 0, .int .i64 0]) ?_ 2 _ rfl
      refine blk_put (cs := #[.int .i64 0, .int .i64 0, .int .i64 0, .int .i64 0, .int .i64 0]) ?_ 1 _ rfl
      refine blk_put (cs := #[.int .i64 0, .int .i64 0, .int .i64 0, .int .i64 0, .int .i64 0]) ?_ 0 _ rfl
      exact B0.out
    exact ⟨rfl, by repeat (with_reducible first | exact HB.out | refine below_set ?_ (Nat.le_refl _))⟩
  ·
    go_wp2
    refine bodyPost_ret (results_ct rfl _ _ w.heap.size 40 #[.int .i64 (a0 / 16777216), .int .i64 0, .int .i64 0, .int .i64 0, .int .i64 s] (0, 0) _ rfl ?hgtrue Try.underlying40 rfl (by kernel_rfl)) rfl ?_
    case hgtrue =>
      refine blk_put (cs := #[.int .i64 (a0 / 16777216), .int .i64 0, .int .i64 0, .int .i64 0, .int .i64 0]) ?_ 4 _ rfl
      refine blk_put (cs := #[.int .i64 (a0 / 16777216), .int .i64 0, .int .i64 0, .int .i64 0, .int .i64 0]) ?_ 3 _ rfl
      refine blk_put (cs := #[.int .i64 (a0 / 16777216), .int .i64 0, .int .i64 0, .int .i64 0, .int .i64 0]) ?_ 2 _ rfl
      refine blk_put (cs := #[.int .i64 (a0 / 16777216), .int .i64 0, .int .i64 0, .int .i64 0, .int .i64 0]) ?_ 1 _ rfl
      refine blk_put (cs := #[.int .i64 0, .int .i64 0, .int .i64 0, .int .i64 0, .int .i64 0]) ?_ 0 _ rfl
      exact B0.out
    exact ⟨rfl, by repeat (with_reducible first | exact HB.out | refine below_set ?_ (Nat.le_refl _))⟩
set_option maxHeartbeats 1000000 in
set_option maxRecDepth 100000 in
theorem rget_other (k : Nat) (a0 s : Int) (r : Bool) (w : World) (b0 : 0 ≤ a0) (b1 : a0 ≤ 4294967295) (F0 : Aside0 (spliceref02_far.f (a0 / 16777216) = some false)) (F1 : Aside0 (spliceref02_three.f (a0 / 16777216) = some false)) (F2 : Aside0 (spliceref02_near.f (a0 / 16777216) = some false)) (F3 : Aside0 (spliceref02_branch.f (a0 / 16777216) = some false)) (F4 : Aside0 (spliceref02_Right.f (a0 / 16777216) (a0 / 1048576 % 16) (a0 / 65536 % 16) 0 (a0 % 65536) = some r)) :
    Calls Try.prog 14 #[.int .u32 a0] w fun e w' => e = .returned (if r = true then .tuple #[.agg #[.int .i64 (a0 / 16777216), .int .i64 (a0 / 1048576 % 16), .int .i64 (a0 / 65536 % 16), .int .i64 0, .int .i64 (a0 % 65536)], .bool true] else .tuple #[.agg #[.int .i64 0, .int .i64 0, .int .i64 0, .int .i64 0, .int .i64 0], .bool false]) ∧ Below w.heap.size w w' := by
  go_enter Try.func14, Try.ntmps14
  go_wp2_with (first | (go_at_call 32; refine (spliceref02_far.calls _ _ _ F0.out).mono ?_; rintro e w' ⟨rfl, ⟨nd, rfl⟩⟩) | (go_at_call 34; refine (spliceref02_three.calls _ _ _ F1.out).mono ?_; rintro e w' ⟨rfl, ⟨nd, rfl⟩⟩) | (go_at_call 35; refine (spliceref02_near.calls _ _ _ F2.out).mono ?_; rintro e w' ⟨rfl, ⟨nd, rfl⟩⟩) | (go_at_call 36; refine (spliceref02_branch.calls _ _ _ F3.out).mono ?_; rintro e w' ⟨rfl, ⟨nd, rfl⟩⟩))
  refine call2 (g0 := w.heap.size) (g1 := w.heap.size + 1) (o0 := .cells #[.int .i64 0, .int .i64 0, .int .i64 0, .int .i64 0, .int .i64 0] 40 (0, 0)) (o1 := .cells #[.int .i64 (a0 / 16777216), .int .i64 (a0 / 1048576 % 16), .int .i64 (a0 / 65536 % 16), .int .i64 0, .int .i64 (a0 % 65536)] 40 (0, 0)) (spliceref02_Right.calls _ _ _ _ _ _ _ F4.out) (B := w.heap.size) (w0 := w) ?hB ?hle ?h0 ?h1 ?_
  case hB => repeat (with_reducible first | exact Below.refl _ _ | refine below_set ?_ (Nat.le_succ _) | apply below_alloc | apply pw_below_drewN | apply below_drew1)
  case hle => simp; omega
  case h0 =>
    repeat (with_reducible first | refine blk_drewN ?_ _ | refine blk_drew ?_ | refine blk_far ?_ (Nat.ne_of_lt (Nat.lt_succ_self _)) _)
    exact heap_alloc2_old _ _ _
  case h1 =>
    (with_reducible repeat (first | refine blk_drewN ?_ _ | refine blk_drew ?_))
    refine blk_put (cs := #[.int .i64 (a0 / 16777216), .int .i64 (a0 / 1048576 % 16), .int .i64 (a0 / 65536 % 16), .int .i64 0, .int .i64 0]) ?_ 4 _ rfl
    (with_reducible repeat (first | refine blk_drewN ?_ _ | refine blk_drew ?_))
    refine blk_put (cs := #[.int .i64 (a0 / 16777216), .int .i64 (a0 / 1048576 % 16), .int .i64 0, .int .i64 0, .int .i64 0]) ?_ 2 _ rfl
    (with_reducible repeat (first | refine blk_drewN ?_ _ | refine blk_drew ?_))
    refine blk_put (cs := #[.int .i64 (a0 / 16777216), .int .i64 0, .int .i64 0, .int .i64 0, .int .i64 0]) ?_ 1 _ rfl
    (with_reducible repeat (first | refine blk_drewN ?_ _ | refine blk_drew ?_))
    exact heap_alloc2_new _ _ _
  intro w1 HB B0 B1
  have hcz0 : w1.cell? ⟨w.heap.size + 1, 0, none⟩ = some (.int .i64 (a0 / 16777216)) := (blk_cell B1.out 0).trans rfl
  have hcy0 : w1.cell? ⟨w.heap.size, 0, none⟩ = some (.int .i64 0) := (blk_cell B0.out 0).trans rfl
  have hfz0 := blk_frozen B0.out 0
  have hcz1 : w1.cell? ⟨w.heap.size + 1, 1, none⟩ = some (.int .i64 (a0 / 1048576 % 16)) := (blk_cell B1.out 1).trans rfl
  have hcy1 : w1.cell? ⟨w.heap.size, 1, none⟩ = some (.int .i64 0) := (blk_cell B0.out 1).trans rfl
  have hfz1 := blk_frozen B0.out 1
  have hcz2 : w1.cell? ⟨w.heap.size + 1, 2, none⟩ = some (.int .i64 (a0 / 65536 % 16)) := (blk_cell B1.out 2).trans rfl
  have hcy2 : w1.cell? ⟨w.heap.size, 2, none⟩ = some (.int .i64 0) := (blk_cell B0.out 2).trans rfl
  have hfz2 := blk_frozen B0.out 2
  have hcz3 : w1.cell? ⟨w.heap.size + 1, 3, none⟩ = some (.int .i64 0) := (blk_cell B1.out 3).trans rfl
  have hcy3 : w1.cell? ⟨w.heap.size, 3, none⟩ = some (.int .i64 0) := (blk_cell B0.out 3).trans rfl
  have hfz3 := blk_frozen B0.out 3
  have hcz4 : w1.cell? ⟨w.heap.size + 1, 4, none⟩ = some (.int .i64 (a0 % 65536)) := (blk_cell B1.out 4).trans rfl
  have hcy4 : w1.cell? ⟨w.heap.size, 4, none⟩ = some (.int .i64 0) := (blk_cell B0.out 4).trans rfl
  have hfz4 := blk_frozen B0.out 4
  cases r
  ·
    go_wp2
    refine bodyPost_ret (results_ct rfl _ _ w.heap.size 40 #[.int .i64 0, .int .i64 0, .int .i64 0, .int .i64 0, .int .i64 0] (0, 0) _ rfl ?hgfalse Try.underlying40 rfl (by kernel_rfl)) rfl ?_
    case hgfalse =>
      refine blk_put (cs := #[.int .i64 0, .int .i64 0, .int .i64 0, .int .i64 0, .int .i64 0]) ?_ 4 _ rfl
      refine blk_put (cs := #[.int .i64 0, .int .i64 0, .int .i64 0, .int .i64 0, .int .i64 0]) ?_ 3 _ rfl
      refine blk_put (cs := #[.int .i64 0, .int .i64 0, .int .i64 0, .int .i64 0, .int .i64 0]) ?_ 2 _ rfl
      refine blk_put (cs := #[.int .i64 0, .int .i64 0, .int .i64 0, .int .i64 0, .int .i64 0]) ?_ 1 _ rfl
      refine blk_put (cs := #[.int .i64 0, .int .i64 0, .int .i64 0, .int .i64 0, .int .i64 0]) ?_ 0 _ rfl
      exact B0.out
    exact ⟨rfl, by repeat (with_reducible first | exact HB.out | refine below_set ?_ (Nat.le_refl _))⟩
  ·
    go_wp2
    refine bodyPost_ret (results_ct rfl _ _ w.heap.size 40 #[.int .i64 (a0 / 16777216), .int .i64 (a0 / 1048576 % 16), .int .i64 (a0 / 65536 % 16), .int .i64 0, .int .i64 (a0 % 65536)] (0, 0) _ rfl ?hgtrue Try.underlying40 rfl (by kernel_rfl)) rfl ?_
    case hgtrue =>
      refine blk_put (cs := #[.int .i64 (a0 / 16777216), .int .i64 (a0 / 1048576 % 16), .int .i64 (a0 / 65536 % 16), .int .i64 0, .int .i64 0]) ?_ 4 _ rfl
      refine blk_put (cs := #[.int .i64 (a0 / 16777216), .int .i64 (a0 / 1048576 % 16), .int .i64 (a0 / 65536 % 16), .int .i64 0, .int .i64 0]) ?_ 3 _ rfl
      refine blk_put (cs := #[.int .i64 (a0 / 16777216), .int .i64 (a0 / 1048576 % 16), .int .i64 0, .int .i64 0, .int .i64 0]) ?_ 2 _ rfl
      refine blk_put (cs := #[.int .i64 (a0 / 16777216), .int .i64 0, .int .i64 0, .int .i64 0, .int .i64 0]) ?_ 1 _ rfl
      refine blk_put (cs := #[.int .i64 0, .int .i64 0, .int .i64 0, .int .i64 0, .int .i64 0]) ?_ 0 _ rfl
      exact B0.out
    exact ⟨rfl, by repeat (with_reducible first | exact HB.out | refine below_set ?_ (Nat.le_refl _))⟩
set_option maxHeartbeats 1000000 in
set_option maxRecDepth 100000 in
theorem rget_long (a0 : Int) (w : World) (b0 : 0 ≤ a0) (b1 : a0 ≤ 4294967295) (t0 : decide (255 < a0 % 65536) = true) (F0 : Aside0 (spliceref02_far.f (a0 / 16777216) = some false)) (F1 : Aside0 (spliceref02_three.f (a0 / 16777216) = some false)) (F2 : Aside0 (spliceref02_near.f (a0 / 16777216) = some false)) (F3 : Aside0 (spliceref02_branch.f (a0 / 16777216) = some true)) :
    Calls Try.prog 14 #[.int .u32 a0] w fun e w' => e = .returned (.tuple #[.agg #[.int .i64 0, .int .i64 0, .int .i64 0, .int .i64 0, .int .i64 0], .bool false]) ∧ Below w.heap.size w w' := by
  go_enter Try.func14, Try.ntmps14
  go_wp2_with (first | (go_at_call 32; refine (spliceref02_far.calls _ _ _ F0.out).mono ?_; rintro e w' ⟨rfl, ⟨nd, rfl⟩⟩) | (go_at_call 34; refine (spliceref02_three.calls _ _ _ F1.out).mono ?_; rintro e w' ⟨rfl, ⟨nd, rfl⟩⟩) | (go_at_call 35; refine (spliceref02_near.calls _ _ _ F2.out).mono ?_; rintro e w' ⟨rfl, ⟨nd, rfl⟩⟩) | (go_at_call 36; refine (spliceref02_branch.calls _ _ _ F3.out).mono ?_; rintro e w' ⟨rfl, ⟨nd, rfl⟩⟩))
  refine bodyPost_ret (results_ct rfl _ _ w.heap.size 40 #[.int .i64 0, .int .i64 0, .int .i64 0, .int .i64 0, .int .i64 0] (0, 0) _ rfl ?hg Try.underlying40 rfl (by kernel_rfl)) rfl ?_
  case hg =>
    repeat (with_reducible first | refine blk_drewN ?_ _ | refine blk_drew ?_ | refine blk_far ?_ (Nat.ne_of_lt (Nat.lt_succ_self _)) _ | (refine blk_put (cs := #[.int .i64 0, .int .i64 0, .int .i64 0, .int .i64 0, .int .i64 0]) ?_ 0 _ rfl) | (refine blk_put (cs := #[.int .i64 0, .int .i64 0, .int .i64 0, .int .i64 0, .int .i64 0]) ?_ 1 _ rfl) | (refine blk_put (cs := #[.int .i64 0, .int .i64 0, .int .i64 0, .int .i64 0, .int .i64 0]) ?_ 2 _ rfl) | (refine blk_put (cs := #[.int .i64 0, .int .i64 0, .int .i64 0, .int .i64 0, .int .i64 0]) ?_ 3 _ rfl) | (refine blk_put (cs := #[.int .i64 0, .int .i64 0, .int .i64 0, .int .i64 0, .int .i64 0]) ?_ 4 _ rfl))
    exact heap_alloc2_old _ _ _
  exact ⟨rfl, by repeat (with_reducible first | exact Below.refl _ _ | refine below_set ?_ (Nat.le_succ _) | refine below_set ?_ (Nat.le_refl _) | apply below_alloc | apply pw_below_drewN | apply below_drew1)⟩
theorem rg_end {P : World → Prop} {R : Prop} [Decidable R] {x y z u v r1 r2 r3 r4 r5 : Int} {b : Bool} {r6 : Bool} (hb : b = decide R) (h : (if R then (some (x, y, z, u, v, true)) else (some (0, 0, 0, 0, 0, false))) = some (r1, r2, r3, r4, r5, r6)) {e : Ending} {w' : World}
    (he : e = .returned (if b = true then .tuple #[.agg #[.int .i64 x, .int .i64 y, .int .i64 z, .int .i64 u, .int .i64 v], .bool true] else .tuple #[.agg #[.int .i64 0, .int .i64 0, .int .i64 0, .int .i64 0, .int .i64 0], .bool false]) ∧ P w') :
    e = .returned (.tuple #[.agg #[.int .i64 r1, .int .i64 r2, .int .i64 r3, .int .i64 r4, .int .i64 r5], .bool r6]) ∧ P w' := by
  subst hb
  refine ⟨he.1.trans ?_, he.2⟩
  by_cases p : R
  · rw [if_pos p] at h
    simp only [Option.some.injEq, Prod.mk.injEq] at h
    obtain ⟨rfl, rfl, rfl, rfl, rfl, rfl⟩ := h
    rw [if_pos (decide_eq_true p)]
  · rw [if_neg p] at h
    simp only [Option.some.injEq, Prod.mk.injEq] at h
    obtain ⟨rfl, rfl, rfl, rfl, rfl, rfl⟩ := h
    rw [if_neg (by simpa using p)]
theorem spliceref02_Get.calls (a0 : Int) (r1 : Int) (r2 : Int) (r3 : Int) (r4 : Int) (r5 : Int) (r6 : Bool) (w : World) (h : spliceref02_Get.f a0 = some (r1, r2, r3, r4, r5, r6)) :
    Calls Try.prog 14 #[.int .u32 a0] w fun e w' => e = .returned (.tuple #[.agg #[.int .i64 r1, .int .i64 r2, .int .i64 r3, .int .i64 r4, .int .i64 r5], .bool r6]) ∧ Below w.heap.size w w' := by
  unfold spliceref02_Get.f at h
  by_cases hu : ¬ (0 ≤ a0 ∧ a0 ≤ 4294967295)
  · rw [if_neg hu] at h; cases h
  have hu := Decidable.not_not.1 hu
  rw [if_pos hu] at h
  obtain ⟨op, a, b, lo, h0, ha, hb, hl, e, e0, e1, e2, e3⟩ := parts a0 hu
  have hs8 : lo ≤ 255 → a0 % 256 = lo := by omega
  have hs24 : a0 % 16777216 = a * 1048576 + b * 65536 + lo := by omega
  have f1 : spliceref02_far.f (a0 / 16777216) = some (decide (op = 19 ∨ op = 20)) := by rw [far_eq, e0]
  have f2 : spliceref02_three.f (a0 / 16777216) = some (decide (1 ≤ op ∧ op ≤ 7)) := by rw [three_eq, e0]
  have f3 : spliceref02_near.f (a0 / 16777216) = some (decide (op = 8 ∨ 11 ≤ op ∧ op ≤ 14)) := by rw [near_eq, e0]
  have f4 : spliceref02_branch.f (a0 / 16777216) = some (decide (15 ≤ op ∧ op ≤ 18)) := by rw [branch_eq, e0]
  by_cases g1 : 1 ≤ op ∧ op ≤ 7
  · have hh := (rk_three h0 ha hb hl e g1).trans h
    rw [← e0, ← e1, ← e2, ← e3] at hh
    rw [decide_eq_false (by omega)] at f1
    rw [decide_eq_true g1] at f2
    exact (rget_three 41 a0 0 _ w hu.1 hu.2 ⟨f1⟩ ⟨f2⟩ ⟨ref_right_eq _ _ _ _ _⟩).mono fun e w' he => rg_end rfl hh he
  by_cases g2 : op = 8 ∨ 11 ≤ op ∧ op ≤ 14
  · have hh := (rk_near h0 ha hb hl e g2).trans h
    rw [← e0, ← e1, ← e2] at hh
    rw [decide_eq_false (by omega)] at f1
    rw [decide_eq_false g1] at f2
    rw [decide_eq_true g2] at f3
    exact (rget_near 41 a0 (sg16 lo) _ w hu.1 hu.2 ⟨f1⟩ ⟨f2⟩ ⟨f3⟩ ⟨by rw [rsign16 (by omega) hu, e3]⟩ ⟨ref_right_eq _ _ _ _ _⟩).mono fun e w' he => rg_end rfl hh he
  by_cases g3 : 15 ≤ op ∧ op ≤ 18
  · rw [decide_eq_false (by omega)] at f1
    rw [decide_eq_false g1] at f2
    rw [decide_eq_false g2] at f3
    rw [decide_eq_true g3] at f4
    by_cases l : lo ≤ 255
    · have hh := (rk_branch h0 ha hb hl e g3 l).trans h
      rw [← e0, ← e1, ← e2] at hh
      exact (rget_branch 41 a0 (sg8 lo) _ w hu.1 hu.2 (decide_eq_false (by omega)) ⟨f1⟩ ⟨f2⟩ ⟨f3⟩ ⟨f4⟩ ⟨by rw [rsign8 (by omega) hu, hs8 l]⟩ ⟨ref_right_eq _ _ _ _ _⟩).mono fun e w' he => rg_end rfl hh he
    · have hh := (congrArg some (rk_long h0 ha hb hl e g3 (by omega))).trans h
      simp only [Option.some.injEq, Prod.mk.injEq] at hh
      obtain ⟨rfl, rfl, rfl, rfl, rfl, rfl⟩ := hh
      exact rget_long a0 w hu.1 hu.2 (decide_eq_true (by omega)) ⟨f1⟩ ⟨f2⟩ ⟨f3⟩ ⟨f4⟩
  rw [decide_eq_false g1] at f2
  rw [decide_eq_false g2] at f3
  rw [decide_eq_false g3] at f4
  by_cases g4 : op = 19 ∨ op = 20
  · have hh := (rk_far h0 ha hb hl e g4).trans h
    rw [← e0] at hh
    rw [decide_eq_true g4] at f1
    exact (rget_far 41 a0 _ _ w hu.1 hu.2 ⟨f1⟩ ⟨f2⟩ ⟨f3⟩ ⟨f4⟩ ⟨by rw [rsign24 (by omega) hu, hs24]⟩ ⟨ref_right_eq _ _ _ _ _⟩).mono fun e w' he => rg_end rfl hh he
  · have hh := (rk_other h0 ha hb hl e g1 g2 g3 g4).trans h
    rw [← e0, ← e1, ← e2, ← e3] at hh
    rw [decide_eq_false g4] at f1
    exact (rget_other 41 a0 0 _ w hu.1 hu.2 ⟨f1⟩ ⟨f2⟩ ⟨f3⟩ ⟨f4⟩ ⟨ref_right_eq _ _ _ _ _⟩).mono fun e w' he => rg_end rfl hh he
end Go.Proofs.Ytgaggfekgkedpaa.Q
end
section
/- What a step changes: the plain law of CpuAlone. Own work; a template. -/
namespace Go.Proofs.Ytgaggfekgkedpaa.Cpu
open Go.RowKit Go.Proofs.YtgaggfekgkedpaaW.PrintWords Go.Proofs.YtgaggfekgkedpaaW.PrintLast Go.Proofs.YtgaggfekgkedpaaW.PrintMore Go.Proofs.Ytgaggfekgkedpaa.Hp Go.Proofs.Ytgaggfekgkedpaa.Q Go.Proofs.Ytgaggfekgkedpaa.Code
set_option linter.unusedVariables false
/-- T is what a step of kind op makes of t. -/
structure Alone (t T : St) (op : Int) : Prop where
  r0 : rd T.R 0 = 0
  byt : op ≠ 12 → op ≠ 14 → T.byt = t.byt
  wr : T.wr = t.wr
  out : op ≠ 23 → T.out = t.out
  inp : op ≠ 22 → T.inp = t.inp
  back : op ≠ 20 → op ≠ 21 → T.back.length = t.back.length
  len : T.byt.length = t.byt.length
  at_ : T.en = true → T.at_ = t.at_
  R : T.en = true → T.R = t.R
theorem noen {b c : Bool} (he : b = false) (e : c = b) {P : Prop} (h : c = true) : P := by
  rw [e, he] at h
  cases h
theorem fault_alone {t : St} (k op : Int) (h0 : rd t.R 0 = 0) : Alone t (t.fault k) op := ⟨h0, fun _ _ => rfl, rfl, fun _ => rfl, fun _ => rfl, fun _ _ => rfl, rfl, fun _ => rfl, fun _ => rfl⟩
theorem put_r0 {R : List Int} (r v : Int) (h0 : rd R 0 = 0) : rd (if 0 < r then R.set r.toNat v else R) 0 = 0 := by
  split
  · rename_i h
    unfold rd at h0 ⊢
    rw [List.getD_eq_getElem?_getD, List.getElem?_set_ne (by omega), ← List.getD_eq_getElem?_getD]
    exact h0
  · exact h0
theorem put_alone {t : St} (r v op : Int) (h0 : rd t.R 0 = 0) (he : t.en = false) : Alone t (t.put r v) op :=
  ⟨put_r0 r v h0, fun _ _ => rfl, rfl, fun _ => rfl, fun _ => rfl, fun _ _ => rfl, rfl, noen he rfl, noen he rfl⟩
theorem ite_ne {c : Prop} [Decidable c] {x y k : Int} (h1 : x = k → False) (h2 : y = k → False) : (if c then x else y) = k → False := by split <;> assumption
theorem kind5 {op : Int} (h : kindF op = 5) : op = 0 ∨ op = 21 ∨ op = 25 := by
  unfold kindF at h
  by_cases e1 : op = 0
  · exact .inl e1
  by_cases e2 : op = 21
  · exact .inr (.inl e2)
  by_cases e3 : op = 25
  · exact .inr (.inr e3)
  rw [if_neg e1, if_neg e2, if_neg e3] at h
  exfalso
  revert h
  repeat' (refine ite_ne ?_ ?_)
  all_goals decide
theorem step_alone (t : St) (ws : List Int) (hr : rightF t = true) (he : t.en = false) : ∀ op, (op = if (t.at_ < (ws.length : Int)) then (match gW (rd ws t.at_) with | some (o, _, _, _, _) => o | none => -1) else -1) → Alone t (t.step ws) op := by
  intro op hop
  have h0 : rd t.R 0 = 0 := by unfold rightF at hr; simp at hr; exact hr.1
  unfold St.step
  rw [if_neg (by rw [he]; simp)]
  by_cases ho : t.at_ < 0 ∨ (ws.length : Int) ≤ t.at_
  · rw [if_pos ho]
    exact fault_alone 2 op h0
  rw [if_neg ho]
  rw [if_pos (by omega)] at hop
  cases hg : gW (rd ws t.at_) with
  | none => exact fault_alone 2 op h0
  | some q =>
    obtain ⟨o, a, b, c, i⟩ := q
    rw [hg] at hop
    simp only at hop
    subst hop
    show Alone t (t.does ⟨op, a, b, c, i⟩) op
    unfold St.does
    split
    · split
      · exact put_alone 0 0 op h0 he
      · exact put_alone _ _ op h0 he
    split
    · rename_i hk0 hk1
      unfold St.effect
      have ld : ∀ wide, Alone t (t.load ⟨op, a, b, c, i⟩ wide) op := fun wide => by
        unfold St.load
        split
        · exact put_alone _ _ op h0 he
        · exact fault_alone _ op h0
      have sv : ∀ wide, (op = 12 ∨ op = 14) → Alone t (t.save ⟨op, a, b, c, i⟩ wide) op := fun wide h => by
        unfold St.save
        split
        · rename_i hq
          refine ⟨h0, fun h1 h2 => by omega, rfl, fun _ => rfl, fun _ => rfl, fun _ _ => rfl, ?_, noen he rfl, noen he rfl⟩
          show (saveL t.byt _ _ wide).length = t.byt.length
          unfold saveL
          have := hq.1
          unfold okF at this
          have := of_decide_eq_true this
          have hx : ((byteF (rd t.R a)).take (sizeF wide).toNat).length = (sizeF wide).toNat := by cases wide <;> rfl
          have hs : 0 ≤ sizeF wide := by cases wide <;> decide
          show (splice t.byt _ ((byteF (rd t.R a)).take (sizeF wide).toNat)).length = _
          unfold splice
          simp only [List.length_append, List.length_take, List.length_drop, hx]
          rw [List.length_take] at hx
          omega
        · exact fault_alone _ op h0
      split
      · exact ld true
      split
      · exact ld false
      split
      · rename_i e; exact sv true (.inl e)
      split
      · rename_i e; exact sv false (.inr e)
      split
      · rename_i e
        have e : op = 22 := e
        unfold St.inn
        split
        · exact put_alone _ _ op h0 he
        · exact ⟨put_r0 _ _ h0, fun _ _ => rfl, rfl, fun _ => rfl, fun h => absurd e h, fun _ _ => rfl, rfl, noen he rfl, noen he rfl⟩
      · rename_i e1 e2 e3 e4 e5
        have e : op = 23 := by
          unfold kindF at hk1
          simp only at e1 e2 e3 e4 e5 hk1
          rw [if_neg e1, if_neg e3, if_neg e2, if_neg e4, if_neg e5] at hk1
          by_cases o6 : op = 23
          · exact o6
          · rw [if_neg o6] at hk1
            repeat' split at hk1
            all_goals omega
        unfold St.outp
        exact ⟨h0, fun _ _ => rfl, rfl, fun h => absurd e h, fun _ => rfl, fun _ _ => rfl, rfl, noen he rfl, noen he rfl⟩
    split
    · unfold St.ends
      rename_i hk0 hk1 hk5
      have hk5 : kindF op = 5 := hk5
      split
      · exact ⟨h0, fun _ _ => rfl, rfl, fun _ => rfl, fun _ => rfl, fun _ _ => rfl, rfl, fun _ => rfl, fun _ => rfl⟩
      split
      · exact ⟨h0, fun _ _ => rfl, rfl, fun _ => rfl, fun _ => rfl, fun _ _ => rfl, rfl, fun _ => rfl, fun _ => rfl⟩
      split
      · exact ⟨h0, fun _ _ => rfl, rfl, fun _ => rfl, fun _ => rfl, fun _ _ => rfl, rfl, fun _ => rfl, fun _ => rfl⟩
      · rename_i e1 e2 e3
        have e : op = 21 := by
          rcases kind5 hk5 with h | h | h
          · exact absurd h e1
          · exact h
          · exact absurd h e2
        exact ⟨h0, fun _ _ => rfl, rfl, fun _ => rfl, fun _ => rfl, fun _ h2 => absurd e h2, rfl, noen he rfl, noen he rfl⟩
    · unfold St.leads
      refine ⟨h0, fun _ _ => rfl, rfl, fun _ => rfl, fun _ => rfl, fun h1 h2 => ?_, rfl, noen he rfl, noen he rfl⟩
      show (if op = 20 then _ else t.back).length = _
      rw [if_neg h1]
end Go.Proofs.Ytgaggfekgkedpaa.Cpu
end
section
/- The law CpuAlone: its contract. Own work; a template, printed by gen_alone.py. -/
namespace Go.Proofs.Ytgaggfekgkedpaa.Cpu
open Go.RowKit Go.Proofs.YtgaggfekgkedpaaW.PrintWords Go.Proofs.YtgaggfekgkedpaaW.PrintLast Go.Proofs.YtgaggfekgkedpaaW.PrintMore Go.Proofs.Ytgaggfekgkedpaa.Hp Go.Proofs.Ytgaggfekgkedpaa.Q Go.Proofs.Ytgaggfekgkedpaa.Code
set_option linter.unusedVariables false
set_option linter.unusedSimpArgs false
attribute [local go_sem] add_any
theorem sameF_refl (t : St) : sameF t t = true := by simp [sameF]
section
variable {w W : World} {s s2 : SV} {t T : St}
theorem q0_of (hz : Rd W s2 T) (h : rd T.R 0 = 0) : s2.c[1]? = some (.int .u32 0) := by rw [g_r0, hz.R, h]
theorem qby_of (hz : Rd W s2 T) (h : Rd w s t) (e : T.byt.length = t.byt.length) : s2.c[19]? = some (.slice s2.byt.a s.byt.n s2.byt.c) := by rw [g_byt, hz.byt.1, e, ← h.byt.1]
theorem qwr_of (hz : Rd W s2 T) (h : Rd w s t) (e : T.wr = t.wr) : s2.c[18]? = some (.int .i64 s.wr) := by rw [g_wr, hz.wr, e, ← h.wr]
theorem qen_of {b : Bool} (hz : Rd W s2 T) (e : T.en = b) : s2.c[22]? = some (.bool b) := by rw [g_en, hz.en, e]
theorem qat_of (hz : Rd W s2 T) (h : Rd w s t) (e : T.at_ = t.at_) : s2.c[0]? = some (.int .i64 s.at_) := by rw [g_at, hz.at_, e, ← h.at_]
theorem qbk_of (hz : Rd W s2 T) (h : Rd w s t) (e : T.back.length = t.back.length) : s2.c[17]? = some (.slice s2.back.a s.back.n s2.back.c) := by rw [g_back, hz.back.1, e, ← h.back.1]
theorem h2n_of (hz : Rd W s2 T) : s2.R.length = 16 := by rw [hz.R]; exact hz.n16
theorem hRR_of (hz : Rd W s2 T) (h : Rd w s t) (e : T.R = t.R) : (s2.R == s.R) = true := by rw [hz.R, e, ← h.R]; exact beq_self_eq_true _
theorem hM_of (hz : Rd W s2 T) (h : Rd w s t) (e : T.wr = t.wr) (e2 : T.byt = t.byt) : (s2.wr == s.wr && T.byt == t.byt) = true := by rw [hz.wr, e, ← h.wr, e2, beq_self_eq_true, beq_self_eq_true]; rfl
theorem hO_of {l l' : List Int} (e : l = l') : (l == l') = true := by rw [e]; exact beq_self_eq_true _
end
theorem neq_of {t T : St} {op k : Int} (hal : Aside0 (Alone t T op)) (h : (op != k) = true) : op ≠ k := by simpa using h
theorem hp_loadsXG {P : Program} {ops : Array Oper} {rest : List Oper} {o : Oper} {a : Act} {Q : Exit → Act → World → Prop} {W : World} (hgd : o.guard = none) {ty : TypeId} {x : Operand} (ho : o.op = .load ty x) {g off : Nat} (hx : a.eval x = .pointer (some ⟨g, off, none⟩)) {cs : Array Value} {t : TypeId} (hg : W.heap[g]? = some (.cells cs t (0, 0)))
    (hu : (match P.underlying ty with | some (.struct _) | some (.array _ _) => true | _ => false) = true) {n : Nat} (hi : (P.info? ty).map (·.size) = some n) (hfit : Nat.ble (off + n) cs.size = true) {cs' : Array Value} (hc : cs.extract off (off + n) = cs')
    (h : wpList P ops Q rest (a.put o.dst (.agg cs')) W) : WpS P ops Q (o :: rest) a W := by
  subst hc
  refine ⟨Kd.event_run hgd ?_ h⟩
  unfold execOp
  simp only [ho, hx, Instr.loadAt, Instr.sureAddr, Sem.run_bind, Sem.run_pure, Result.andThen_ok, run_seg W g off n ty t cs hg hu hi (Nat.le_of_ble_eq_true hfit)]

set_option maxHeartbeats 40000000 in
set_option maxRecDepth 100000 in
theorem alone_few (A : Option Addr) (n c : Nat) (ws : List Int) (s : SV) (t : St) (w : World) (h : Aside0 (Rd w s t)) (hf : Aside0 (fewF t = false)) :
    Calls Try.prog 4 #[.slice A n c, .agg s.c] w fun e w' => e = .returned (.bool true) ∧ Below w.heap.size w w' := by
  have H := Hp.nil w
  go_enter Try.func4, Try.ntmps4
  go_wp2_with (first | ((with_reducible refine gate_guardG ?_); refine hp_guardLG rfl rfl ?_; (with_reducible first | refine go_tt ?_ | refine go_ff ?_ | refine go_tf ?_ | refine go_ft ?_); (try simp only [Act.put, List.setIfInBounds_toArray, List.set_cons_zero, List.set_cons_succ])) | ((with_reducible refine gate_dst (N := 3) rfl ?_); refine hp_box H rfl rfl rfl ?_; intro gs W_ H_; clear H; have H := H_; clear H_) | ((with_reducible refine gate_fnG ?_); (refine hp_goesG H rfl (f := 7) rfl Try.func7 (by kernel_rfl) rfl (awake_c _) (by (try simp only [List.map_toArray, List.map_cons, List.map_nil]); first | done | rfl) ?_; rintro e_ W_ ⟨rfl, hb_⟩; refine ⟨_, rfl, hb_, fun H_ => ?_⟩; clear H; have H := H_; clear H_); (try simp only [Act.put, List.setIfInBounds_toArray, List.set_cons_zero, List.set_cons_succ])) | ((with_reducible refine gate_fnG ?_); (refine hp_goesG H rfl (f := 8) rfl Try.func8 (by kernel_rfl) rfl (few_c s t _ ⟨h.out.below H.below⟩ hf.out) (by (try simp only [List.map_toArray, List.map_cons, List.map_nil]); first | done | rfl) ?_; rintro e_ W_ ⟨rfl, hb_⟩; refine ⟨_, rfl, hb_, fun H_ => ?_⟩; clear H; have H := H_; clear H_); (try simp only [Act.put, List.setIfInBounds_toArray, List.set_cons_zero, List.set_cons_succ])) | ((with_reducible refine gate_loadG ?_); (first | (refine hp_wholeG H rfl (ty := 32) rfl rfl (by repeat (first | exact .head _ | refine .tail _ ?_)) (by kernel_rfl) (by kernel_rfl) ?_)); (try simp only [Act.put, List.setIfInBounds_toArray, List.set_cons_zero, List.set_cons_succ])))
  go_ret
  exact ⟨rfl, H.below⟩
set_option maxHeartbeats 40000000 in
set_option maxRecDepth 100000 in
theorem alone_long (A : Option Addr) (n c : Nat) (ws : List Int) (s : SV) (t : St) (w : World) (h : Aside0 (Rd w s t)) (hf : Aside0 (fewF t = true)) (h5 : decide ((n : Int) > 500) = true) (h5' : decide (500 < n) = true) :
    Calls Try.prog 4 #[.slice A n c, .agg s.c] w fun e w' => e = .returned (.bool true) ∧ Below w.heap.size w w' := by
  have H := Hp.nil w
  go_enter Try.func4, Try.ntmps4
  go_wp2_with (first | ((with_reducible refine gate_guardG ?_); refine hp_guardLG rfl rfl ?_; (with_reducible first | refine go_tt ?_ | refine go_ff ?_ | refine go_tf ?_ | refine go_ft ?_); (try simp only [Act.put, List.setIfInBounds_toArray, List.set_cons_zero, List.set_cons_succ])) | ((with_reducible refine gate_dst (N := 3) rfl ?_); refine hp_box H rfl rfl rfl ?_; intro gs W_ H_; clear H; have H := H_; clear H_) | ((with_reducible refine gate_fnG ?_); (refine hp_goesG H rfl (f := 7) rfl Try.func7 (by kernel_rfl) rfl (awake_c _) (by (try simp only [List.map_toArray, List.map_cons, List.map_nil]); first | done | rfl) ?_; rintro e_ W_ ⟨rfl, hb_⟩; refine ⟨_, rfl, hb_, fun H_ => ?_⟩; clear H; have H := H_; clear H_); (try simp only [Act.put, List.setIfInBounds_toArray, List.set_cons_zero, List.set_cons_succ])) | ((with_reducible refine gate_fnG ?_); (refine hp_goesG H rfl (f := 8) rfl Try.func8 (by kernel_rfl) rfl (few_c s t _ ⟨h.out.below H.below⟩ hf.out) (by (try simp only [List.map_toArray, List.map_cons, List.map_nil]); first | done | rfl) ?_; rintro e_ W_ ⟨rfl, hb_⟩; refine ⟨_, rfl, hb_, fun H_ => ?_⟩; clear H; have H := H_; clear H_); (try simp only [Act.put, List.setIfInBounds_toArray, List.set_cons_zero, List.set_cons_succ])) | ((with_reducible refine gate_loadG ?_); (first | (refine hp_wholeG H rfl (ty := 32) rfl rfl (by repeat (first | exact .head _ | refine .tail _ ?_)) (by kernel_rfl) (by kernel_rfl) ?_)); (try simp only [Act.put, List.setIfInBounds_toArray, List.set_cons_zero, List.set_cons_succ])))
  go_ret
  exact ⟨rfl, H.below⟩
set_option maxHeartbeats 40000000 in
set_option maxRecDepth 100000 in
theorem alone_ended (A : Option Addr) (n c : Nat) (ws : List Int) (s : SV) (t : St) (w : World) (h : Aside0 (Rd w s t)) (hl : Aside0 (RdS .u32 w A n c ws)) (hws : Aside0 (∀ x ∈ ws, U32 x)) (hu : Aside0 (∀ x ∈ t.inp, 0 ≤ x ∧ x ≤ 255)) (hf : Aside0 (fewF t = true)) (h5 : decide ((n : Int) > 500) = false) (h5' : decide (500 < n) = false) (he : Aside0 (t.en = true)) :
    Calls Try.prog 4 #[.slice A n c, .agg s.c] w fun e w' => e = .returned (.bool true) ∧ Below w.heap.size w w' := by
  have H := Hp.nil w
  have hb := Aside0.mk (few_b h.out hf.out)
  have qe : Aside0 (s.c[22]? = some (.bool true)) := ⟨by rw [g_en, h.out.en, he.out]⟩
  have hst : Aside0 (t.step ws = t) := ⟨by unfold St.step; rw [if_pos he.out]⟩
  go_enter Try.func4, Try.ntmps4
  go_wp2_with (first | ((with_reducible refine gate_guardG ?_); refine hp_guardLG rfl rfl ?_; (with_reducible first | refine go_tt ?_ | refine go_ff ?_ | refine go_tf ?_ | refine go_ft ?_); (try simp only [Act.put, List.setIfInBounds_toArray, List.set_cons_zero, List.set_cons_succ])) | ((with_reducible refine gate_dst (N := 3) rfl ?_); refine hp_box H rfl rfl rfl ?_; intro gs W_ H_; clear H; have H := H_; clear H_) | ((with_reducible refine gate_fnG ?_); (refine hp_goesG H rfl (f := 7) rfl Try.func7 (by kernel_rfl) rfl (awake_c _) (by (try simp only [List.map_toArray, List.map_cons, List.map_nil]); first | done | rfl) ?_; rintro e_ W_ ⟨rfl, hb_⟩; refine ⟨_, rfl, hb_, fun H_ => ?_⟩; clear H; have H := H_; clear H_); (try simp only [Act.put, List.setIfInBounds_toArray, List.set_cons_zero, List.set_cons_succ])) | ((with_reducible refine gate_fnG ?_); (refine hp_goesG H rfl (f := 8) rfl Try.func8 (by kernel_rfl) rfl (few_c s t _ ⟨h.out.below H.below⟩ hf.out) (by (try simp only [List.map_toArray, List.map_cons, List.map_nil]); first | done | rfl) ?_; rintro e_ W_ ⟨rfl, hb_⟩; refine ⟨_, rfl, hb_, fun H_ => ?_⟩; clear H; have H := H_; clear H_); (try simp only [Act.put, List.setIfInBounds_toArray, List.set_cons_zero, List.set_cons_succ])) | ((with_reducible refine gate_dst (N := 24) rfl ?_); ((with_reducible refine gate_fnG ?_); refine hp_goesG H rfl (f := 13) rfl Try.func13 (by kernel_rfl) rfl (step_c s t A n c ws _ (h.out.below H.below) (hl.out.below H.below) hws.out (by have := hb.out; have := h.out.byt.1; omega) (by have := hb.out; have := h.out.back.1; omega) hu.out) (by (try simp only [List.map_toArray, List.map_cons, List.map_nil]); first | done | rfl) ?_; rintro e_ W_ ⟨s2, rfl, hr2, hb_⟩; refine ⟨_, rfl, hb_, fun H_ => ?_⟩; have hR2 : Aside0 (∀ W9, Below W_.heap.size W_ W9 → Rd W9 s2 (t.step ws)) := ⟨fun W9 h9 => hr2 W9 (fun b _ h2 => h9.block b h2) (h.out.below (below_step H_.below h9))⟩; have hz := hR2.out _ (Below.refl _ _); have fS := Aside0.mk (H_.heap (g := gs) (cs := s.c) (t := 32) (by repeat (first | exact .head _ | refine .tail _ ?_))); have hw1 := Aside0.mk H_.below; clear H H_ hr2; rename World => Wb; have H := Hp.nil Wb; (try have q0 := Aside0.mk (q0_of hz hal.out.r0)); (try have qby := Aside0.mk (qby_of hz h.out hal.out.len)); (try have qwr := Aside0.mk (qwr_of hz h.out hal.out.wr)); (try have qen := Aside0.mk (qen_of hz hE.out)); (try have qat := Aside0.mk (qat_of hz h.out (hal.out.at_ hE.out))); (try have qbk := Aside0.mk (qbk_of hz h.out (hal.out.back o20 o21))); (try have h2n := Aside0.mk (h2n_of hz)); (try have hRR := Aside0.mk (hRR_of hz h.out (hal.out.R hE.out))); clear hz; (try simp only [Act.put, List.setIfInBounds_toArray, List.set_cons_zero, List.set_cons_succ]))) | ((with_reducible refine gate_dst (N := 5) rfl ?_); refine hp_alloc H rfl rfl (fun w_ => by go_simp; rfl) ?_; intro gt W_ H_; clear H; have H := H_; clear H_) | ((with_reducible refine gate_storeG ?_); ((first | (refine hp_store0G H rfl rfl rfl rfl rfl (by kernel_rfl) (by first | rfl | exact fit_.out) (by rfl) (by first | exact sv_all _ rfl) ?_) | (refine hp_store1G H rfl rfl rfl rfl rfl (by kernel_rfl) (by first | rfl | exact fit_.out) (by rfl) (by first | exact sv_all _ rfl) ?_)); intro W_ H_; clear H; have H := H_; clear H_); (try simp only [Act.put, List.setIfInBounds_toArray, List.set_cons_zero, List.set_cons_succ])) | ((with_reducible refine gate_dst (N := 12) rfl ?_); ((with_reducible refine gate_loadG ?_); (first | (refine hp_wholeG H rfl (ty := 32) rfl rfl (by repeat (first | exact .head _ | refine .tail _ ?_)) (by kernel_rfl) (by kernel_rfl) ?_)); (try simp only [Act.put, List.setIfInBounds_toArray, List.set_cons_zero, List.set_cons_succ]))) | ((with_reducible refine gate_dst (N := 23) rfl ?_); ((with_reducible refine gate_loadG ?_); (first | (refine hp_wholeG H rfl (ty := 32) rfl rfl (by repeat (first | exact .head _ | refine .tail _ ?_)) (by kernel_rfl) (by kernel_rfl) ?_)); (try simp only [Act.put, List.setIfInBounds_toArray, List.set_cons_zero, List.set_cons_succ]))) | ((with_reducible refine gate_loadG ?_); (first | (refine hp_wholeG H rfl (ty := 32) rfl rfl (by repeat (first | exact .head _ | refine .tail _ ?_)) (by kernel_rfl) (by kernel_rfl) ?_)); (try simp only [Act.put, List.setIfInBounds_toArray, List.set_cons_zero, List.set_cons_succ])) | ((with_reducible refine gate_loadG ?_); refine hp_wholeXG (ty := 32) rfl rfl rfl ((H.below.block _ (blk_lt fS.out)).trans fS.out) (by kernel_rfl) (by kernel_rfl) ?_; (try simp only [Act.put, List.setIfInBounds_toArray, List.set_cons_zero, List.set_cons_succ])) | ((with_reducible refine gate_loadG ?_); refine hp_loadXG rfl rfl rfl ((H.below.block _ (blk_lt fS.out)).trans fS.out) (by kernel_rfl) (by first | exact qe.out) ?_; (try simp only [Act.put, List.setIfInBounds_toArray, List.set_cons_zero, List.set_cons_succ])) | ((with_reducible refine gate_fnG ?_); (refine hp_goesG H rfl (f := 10) rfl Try.func10 (by kernel_rfl) rfl (rsame6_c s2 s t t _ ⟨hst.out ▸ hR2.out _ H.below⟩ ⟨h.out.below (below_step hw1.out H.below)⟩ (sameF_refl t)) (by (try simp only [List.map_toArray, List.map_cons, List.map_nil]); first | done | rfl) ?_; rintro e_ W_ ⟨rfl, hb_⟩; refine ⟨_, rfl, hb_, fun H_ => ?_⟩; clear H; have H := H_; clear H_); (try simp only [Act.put, List.setIfInBounds_toArray, List.set_cons_zero, List.set_cons_succ])))
  go_ret
  exact ⟨rfl, below_step hw1.out H.below⟩
set_option maxHeartbeats 40000000 in
set_option maxRecDepth 100000 in
theorem alone_out (A : Option Addr) (n c : Nat) (ws : List Int) (s : SV) (t : St) (w : World) (h : Aside0 (Rd w s t)) (hl : Aside0 (RdS .u32 w A n c ws)) (hws : Aside0 (∀ x ∈ ws, U32 x)) (hu : Aside0 (∀ x ∈ t.inp, 0 ≤ x ∧ x ≤ 255)) (hf : Aside0 (fewF t = true)) (h5 : decide ((n : Int) > 500) = false) (h5' : decide (500 < n) = false) (he : Aside0 (t.en = false)) (hal : Aside0 (Alone t (t.step ws) (-1))) (ho : decide (s.at_ < (n : Int)) = false) :
    Calls Try.prog 4 #[.slice A n c, .agg s.c] w fun e w' => e = .returned (.bool true) ∧ Below w.heap.size w w' := by
  have H := Hp.nil w
  have hb := Aside0.mk (few_b h.out hf.out)
  have qs : Aside0 (s.c[22]? = some (.bool false)) := ⟨by rw [g_en, h.out.en, he.out]⟩
  have hsn : Aside0 (s.R.length = 16) := ⟨by rw [h.out.R]; exact h.out.n16⟩
  have o12 : ¬ (-1 : Int) = 12 := by decide
  have o14 : ¬ (-1 : Int) = 14 := by decide
  have o20 : ¬ (-1 : Int) = 20 := by decide
  have o21 : ¬ (-1 : Int) = 21 := by decide
  have o22 : ¬ (-1 : Int) = 22 := by decide
  have o23 : ¬ (-1 : Int) = 23 := by decide
  cases hE : (t.step ws).en
  all_goals replace hE := Aside0.mk hE
  all_goals go_enter Try.func4, Try.ntmps4
  all_goals go_wp2_with (first | ((with_reducible refine gate_guardG ?_); refine hp_guardLG rfl rfl ?_; (with_reducible first | refine go_tt ?_ | refine go_ff ?_ | refine go_tf ?_ | refine go_ft ?_); (try simp only [Act.put, List.setIfInBounds_toArray, List.set_cons_zero, List.set_cons_succ])) | ((with_reducible refine gate_dst (N := 3) rfl ?_); refine hp_box H rfl rfl rfl ?_; intro gs W_ H_; clear H; have H := H_; clear H_) | ((with_reducible refine gate_fnG ?_); (refine hp_goesG H rfl (f := 7) rfl Try.func7 (by kernel_rfl) rfl (awake_c _) (by (try simp only [List.map_toArray, List.map_cons, List.map_nil]); first | done | rfl) ?_; rintro e_ W_ ⟨rfl, hb_⟩; refine ⟨_, rfl, hb_, fun H_ => ?_⟩; clear H; have H := H_; clear H_); (try simp only [Act.put, List.setIfInBounds_toArray, List.set_cons_zero, List.set_cons_succ])) | ((with_reducible refine gate_fnG ?_); (refine hp_goesG H rfl (f := 8) rfl Try.func8 (by kernel_rfl) rfl (few_c s t _ ⟨h.out.below H.below⟩ hf.out) (by (try simp only [List.map_toArray, List.map_cons, List.map_nil]); first | done | rfl) ?_; rintro e_ W_ ⟨rfl, hb_⟩; refine ⟨_, rfl, hb_, fun H_ => ?_⟩; clear H; have H := H_; clear H_); (try simp only [Act.put, List.setIfInBounds_toArray, List.set_cons_zero, List.set_cons_succ])) | ((with_reducible refine gate_dst (N := 24) rfl ?_); ((with_reducible refine gate_fnG ?_); refine hp_goesG H rfl (f := 13) rfl Try.func13 (by kernel_rfl) rfl (step_c s t A n c ws _ (h.out.below H.below) (hl.out.below H.below) hws.out (by have := hb.out; have := h.out.byt.1; omega) (by have := hb.out; have := h.out.back.1; omega) hu.out) (by (try simp only [List.map_toArray, List.map_cons, List.map_nil]); first | done | rfl) ?_; rintro e_ W_ ⟨s2, rfl, hr2, hb_⟩; refine ⟨_, rfl, hb_, fun H_ => ?_⟩; have hR2 : Aside0 (∀ W9, Below W_.heap.size W_ W9 → Rd W9 s2 (t.step ws)) := ⟨fun W9 h9 => hr2 W9 (fun b _ h2 => h9.block b h2) (h.out.below (below_step H_.below h9))⟩; have hz := hR2.out _ (Below.refl _ _); have fS := Aside0.mk (H_.heap (g := gs) (cs := s.c) (t := 32) (by repeat (first | exact .head _ | refine .tail _ ?_))); have hw1 := Aside0.mk H_.below; clear H H_ hr2; rename World => Wb; have H := Hp.nil Wb; (try have q0 := Aside0.mk (q0_of hz hal.out.r0)); (try have qby := Aside0.mk (qby_of hz h.out hal.out.len)); (try have qwr := Aside0.mk (qwr_of hz h.out hal.out.wr)); (try have qen := Aside0.mk (qen_of hz hE.out)); (try have qat := Aside0.mk (qat_of hz h.out (hal.out.at_ hE.out))); (try have qbk := Aside0.mk (qbk_of hz h.out (hal.out.back o20 o21))); (try have h2n := Aside0.mk (h2n_of hz)); (try have hRR := Aside0.mk (hRR_of hz h.out (hal.out.R hE.out))); (try have hM := Aside0.mk (hM_of hz h.out hal.out.wr (hal.out.byt o12 o14))); (try have hO := Aside0.mk (hO_of (hal.out.out o23))); (try have hI := Aside0.mk (hO_of (hal.out.inp o22))); clear hz; (try simp only [Act.put, List.setIfInBounds_toArray, List.set_cons_zero, List.set_cons_succ]))) | ((with_reducible refine gate_dst (N := 5) rfl ?_); refine hp_alloc H rfl rfl (fun w_ => by go_simp; rfl) ?_; intro gt W_ H_; clear H; have H := H_; clear H_) | ((with_reducible refine gate_dst (N := 7) rfl ?_); refine hp_alloc H rfl rfl (fun w_ => by go_simp; rfl) ?_; intro gi W_ H_; clear H; have H := H_; clear H_) | ((with_reducible refine gate_storeG ?_); ((first | (refine hp_store0G H rfl rfl rfl rfl rfl (by kernel_rfl) (by first | rfl | exact fit_.out) (by rfl) (by first | exact sv_all _ rfl | exact rfl) ?_) | (refine hp_store1G H rfl rfl rfl rfl rfl (by kernel_rfl) (by first | rfl | exact fit_.out) (by rfl) (by first | exact sv_all _ rfl | exact rfl) ?_) | (refine hp_store2G H rfl rfl rfl rfl rfl (by kernel_rfl) (by first | rfl | exact fit_.out) (by rfl) (by first | exact sv_all _ rfl | exact rfl) ?_)); intro W_ H_; clear H; have H := H_; clear H_); (try simp only [Act.put, List.setIfInBounds_toArray, List.set_cons_zero, List.set_cons_succ])) | ((with_reducible refine gate_dst (N := 12) rfl ?_); ((with_reducible refine gate_loadG ?_); (first | (refine hp_wholeG H rfl (ty := 32) rfl rfl (by repeat (first | exact .head _ | refine .tail _ ?_)) (by kernel_rfl) (by kernel_rfl) ?_)); (try simp only [Act.put, List.setIfInBounds_toArray, List.set_cons_zero, List.set_cons_succ]))) | ((with_reducible refine gate_dst (N := 23) rfl ?_); ((with_reducible refine gate_loadG ?_); (first | (refine hp_wholeG H rfl (ty := 32) rfl rfl (by repeat (first | exact .head _ | refine .tail _ ?_)) (by kernel_rfl) (by kernel_rfl) ?_)); (try simp only [Act.put, List.setIfInBounds_toArray, List.set_cons_zero, List.set_cons_succ]))) | ((with_reducible refine gate_dst (N := 44) rfl ?_); ((with_reducible refine gate_loadG ?_); refine hp_atXG rfl rfl rfl (pw_cell_below H.below (pw_cell_below hw1.out hx.out)) (by kernel_rfl) ?_; (try simp only [Act.put, List.setIfInBounds_toArray, List.set_cons_zero, List.set_cons_succ]))) | ((with_reducible refine gate_dst (N := 45) rfl ?_); ((with_reducible refine gate_fnG ?_); (refine hp_goesG H rfl (f := 14) rfl Try.func14 (by kernel_rfl) rfl (spliceref02_Get.calls _ _ _ _ _ _ _ _ hget.out) (by (try simp only [List.map_toArray, List.map_cons, List.map_nil]); first | done | rfl) ?_; rintro e_ W_ ⟨rfl, hb_⟩; refine ⟨_, rfl, hb_, fun H_ => ?_⟩; clear H; have H := H_; clear H_); (try simp only [Act.put, List.setIfInBounds_toArray, List.set_cons_zero, List.set_cons_succ]))) | ((with_reducible refine gate_dst (N := 32) rfl ?_); ((with_reducible refine gate_loadG ?_); (refine hp_loadG H rfl rfl rfl (by repeat (first | exact .head _ | refine .tail _ ?_)) (by kernel_rfl) (by first | exact q0.out) ?_); (try simp only [Act.put, List.setIfInBounds_toArray, List.set_cons_zero, List.set_cons_succ]))) | ((with_reducible refine gate_dst (N := 50) rfl ?_); ((with_reducible refine gate_loadG ?_); (refine hp_loadG H rfl rfl rfl (by repeat (first | exact .head _ | refine .tail _ ?_)) (by kernel_rfl) (by first | exact i_of _ _ _ _ _) ?_); (try simp only [Act.put, List.setIfInBounds_toArray, List.set_cons_zero, List.set_cons_succ]))) | ((with_reducible refine gate_dst (N := 70) rfl ?_); ((with_reducible refine gate_loadG ?_); (refine hp_loadG H rfl rfl rfl (by repeat (first | exact .head _ | refine .tail _ ?_)) (by kernel_rfl) (by first | exact g_out _) ?_); (try simp only [Act.put, List.setIfInBounds_toArray, List.set_cons_zero, List.set_cons_succ]))) | ((with_reducible refine gate_dst (N := 82) rfl ?_); ((with_reducible refine gate_loadG ?_); (refine hp_loadG H rfl rfl rfl (by repeat (first | exact .head _ | refine .tail _ ?_)) (by kernel_rfl) (by first | exact g_inp _) ?_); (try simp only [Act.put, List.setIfInBounds_toArray, List.set_cons_zero, List.set_cons_succ]))) | ((with_reducible refine gate_dst (N := 97) rfl ?_); ((with_reducible refine gate_loadG ?_); (refine hp_loadG H rfl rfl rfl (by repeat (first | exact .head _ | refine .tail _ ?_)) (by kernel_rfl) (by first | exact qbk.out) ?_); (try simp only [Act.put, List.setIfInBounds_toArray, List.set_cons_zero, List.set_cons_succ]))) | ((with_reducible refine gate_dst (N := 106) rfl ?_); ((with_reducible refine gate_loadG ?_); (refine hp_loadG H rfl rfl rfl (by repeat (first | exact .head _ | refine .tail _ ?_)) (by kernel_rfl) (by first | exact qen.out) ?_); (try simp only [Act.put, List.setIfInBounds_toArray, List.set_cons_zero, List.set_cons_succ]))) | ((with_reducible refine gate_dst (N := 109) rfl ?_); ((with_reducible refine gate_loadG ?_); (refine hp_loadG H rfl rfl rfl (by repeat (first | exact .head _ | refine .tail _ ?_)) (by kernel_rfl) (by first | exact qat.out) ?_); (try simp only [Act.put, List.setIfInBounds_toArray, List.set_cons_zero, List.set_cons_succ]))) | ((with_reducible refine gate_dst (N := 117) rfl ?_); ((with_reducible refine gate_loadG ?_); (refine hp_loadG H rfl rfl rfl (by repeat (first | exact .head _ | refine .tail _ ?_)) (by kernel_rfl) (by first | exact qby.out) ?_); (try simp only [Act.put, List.setIfInBounds_toArray, List.set_cons_zero, List.set_cons_succ]))) | ((with_reducible refine gate_dst (N := 127) rfl ?_); ((with_reducible refine gate_loadG ?_); (refine hp_loadG H rfl rfl rfl (by repeat (first | exact .head _ | refine .tail _ ?_)) (by kernel_rfl) (by first | exact qwr.out) ?_); (try simp only [Act.put, List.setIfInBounds_toArray, List.set_cons_zero, List.set_cons_succ]))) | ((with_reducible refine gate_dst (N := 135) rfl ?_); ((with_reducible refine gate_loadG ?_); (refine hp_loadG H rfl rfl rfl (by repeat (first | exact .head _ | refine .tail _ ?_)) (by kernel_rfl) (by first | exact qen.out) ?_); (try simp only [Act.put, List.setIfInBounds_toArray, List.set_cons_zero, List.set_cons_succ]))) | ((with_reducible refine gate_dst (N := 26) rfl ?_); ((with_reducible refine gate_loadG ?_); refine hp_loadXG rfl rfl rfl ((H.below.block _ (blk_lt fS.out)).trans fS.out) (by kernel_rfl) (by first | exact qs.out) ?_; (try simp only [Act.put, List.setIfInBounds_toArray, List.set_cons_zero, List.set_cons_succ]))) | ((with_reducible refine gate_dst (N := 35) rfl ?_); ((with_reducible refine gate_loadG ?_); refine hp_loadXG rfl rfl rfl ((H.below.block _ (blk_lt fS.out)).trans fS.out) (by kernel_rfl) (by first | exact g_at s) ?_; (try simp only [Act.put, List.setIfInBounds_toArray, List.set_cons_zero, List.set_cons_succ]))) | ((with_reducible refine gate_dst (N := 42) rfl ?_); ((with_reducible refine gate_loadG ?_); refine hp_loadXG rfl rfl rfl ((H.below.block _ (blk_lt fS.out)).trans fS.out) (by kernel_rfl) (by first | exact g_at s) ?_; (try simp only [Act.put, List.setIfInBounds_toArray, List.set_cons_zero, List.set_cons_succ]))) | ((with_reducible refine gate_dst (N := 72) rfl ?_); ((with_reducible refine gate_loadG ?_); refine hp_loadXG rfl rfl rfl ((H.below.block _ (blk_lt fS.out)).trans fS.out) (by kernel_rfl) (by first | exact g_out s) ?_; (try simp only [Act.put, List.setIfInBounds_toArray, List.set_cons_zero, List.set_cons_succ]))) | ((with_reducible refine gate_dst (N := 84) rfl ?_); ((with_reducible refine gate_loadG ?_); refine hp_loadXG rfl rfl rfl ((H.below.block _ (blk_lt fS.out)).trans fS.out) (by kernel_rfl) (by first | exact g_inp s) ?_; (try simp only [Act.put, List.setIfInBounds_toArray, List.set_cons_zero, List.set_cons_succ]))) | ((with_reducible refine gate_dst (N := 100) rfl ?_); ((with_reducible refine gate_loadG ?_); refine hp_loadXG rfl rfl rfl ((H.below.block _ (blk_lt fS.out)).trans fS.out) (by kernel_rfl) (by first | exact g_back s) ?_; (try simp only [Act.put, List.setIfInBounds_toArray, List.set_cons_zero, List.set_cons_succ]))) | ((with_reducible refine gate_dst (N := 111) rfl ?_); ((with_reducible refine gate_loadG ?_); refine hp_loadXG rfl rfl rfl ((H.below.block _ (blk_lt fS.out)).trans fS.out) (by kernel_rfl) (by first | exact g_at s) ?_; (try simp only [Act.put, List.setIfInBounds_toArray, List.set_cons_zero, List.set_cons_succ]))) | ((with_reducible refine gate_dst (N := 121) rfl ?_); ((with_reducible refine gate_loadG ?_); refine hp_loadXG rfl rfl rfl ((H.below.block _ (blk_lt fS.out)).trans fS.out) (by kernel_rfl) (by first | exact g_byt s) ?_; (try simp only [Act.put, List.setIfInBounds_toArray, List.set_cons_zero, List.set_cons_succ]))) | ((with_reducible refine gate_dst (N := 130) rfl ?_); ((with_reducible refine gate_loadG ?_); refine hp_loadXG rfl rfl rfl ((H.below.block _ (blk_lt fS.out)).trans fS.out) (by kernel_rfl) (by first | exact g_wr s) ?_; (try simp only [Act.put, List.setIfInBounds_toArray, List.set_cons_zero, List.set_cons_succ]))) | ((with_reducible refine gate_dst (N := 59) rfl ?_); ((with_reducible refine gate_loadG ?_); (refine hp_loadsG H rfl (ty := 30) rfl rfl (by repeat (first | exact .head _ | refine .tail _ ?_)) (by kernel_rfl) (n := 2) (by kernel_rfl) rfl (sv_memx _) ?_); (try simp only [Act.put, List.setIfInBounds_toArray, List.set_cons_zero, List.set_cons_succ]))) | ((with_reducible refine gate_dst (N := 61) rfl ?_); ((with_reducible refine gate_loadG ?_); refine hp_loadsXG (ty := 30) rfl rfl rfl ((H.below.block _ (blk_lt fS.out)).trans fS.out) (by kernel_rfl) (n := 2) (by kernel_rfl) rfl (sv_memx _) ?_; (try simp only [Act.put, List.setIfInBounds_toArray, List.set_cons_zero, List.set_cons_succ]))) | ((with_reducible refine gate_dst (N := 139) rfl ?_); ((with_reducible refine gate_loadG ?_); (refine hp_loadsG H rfl (ty := 27) rfl rfl (by repeat (first | exact .head _ | refine .tail _ ?_)) (by kernel_rfl) (n := 16) (by kernel_rfl) rfl (sv_arr _ h2n.out) ?_); (try simp only [Act.put, List.setIfInBounds_toArray, List.set_cons_zero, List.set_cons_succ]))) | ((with_reducible refine gate_dst (N := 141) rfl ?_); ((with_reducible refine gate_loadG ?_); refine hp_loadsXG (ty := 27) rfl rfl rfl ((H.below.block _ (blk_lt fS.out)).trans fS.out) (by kernel_rfl) (n := 16) (by kernel_rfl) rfl (sv_arr _ hsn.out) ?_; (try simp only [Act.put, List.setIfInBounds_toArray, List.set_cons_zero, List.set_cons_succ]))) | ((with_reducible refine gate_fnG ?_); (refine hp_goesG H rfl (f := 15) rfl Try.func15 (by kernel_rfl) rfl (rmem_c _ _ ((hR2.out _ H.below).byt) ((h.out.byt).below (below_step hw1.out H.below)) hM.out) (by (try simp only [List.map_toArray, List.map_cons, List.map_nil]); first | done | rfl) ?_; rintro e_ W_ ⟨rfl, hb_⟩; refine ⟨_, rfl, hb_, fun H_ => ?_⟩; clear H; have H := H_; clear H_); (try simp only [Act.put, List.setIfInBounds_toArray, List.set_cons_zero, List.set_cons_succ])) | ((with_reducible refine gate_dst (N := 73) rfl ?_); ((with_reducible refine gate_fnG ?_); (refine hp_goesG H rfl (f := 16) rfl Try.func16 (by kernel_rfl) rfl (rsame_c ((hR2.out _ H.below).out) ((h.out.out).below (below_step hw1.out H.below)) hO.out) (by (try simp only [List.map_toArray, List.map_cons, List.map_nil]); first | done | rfl) ?_; rintro e_ W_ ⟨rfl, hb_⟩; refine ⟨_, rfl, hb_, fun H_ => ?_⟩; clear H; have H := H_; clear H_); (try simp only [Act.put, List.setIfInBounds_toArray, List.set_cons_zero, List.set_cons_succ]))) | ((with_reducible refine gate_dst (N := 85) rfl ?_); ((with_reducible refine gate_fnG ?_); (refine hp_goesG H rfl (f := 16) rfl Try.func16 (by kernel_rfl) rfl (rsame_c ((hR2.out _ H.below).inp) ((h.out.inp).below (below_step hw1.out H.below)) hI.out) (by (try simp only [List.map_toArray, List.map_cons, List.map_nil]); first | done | rfl) ?_; rintro e_ W_ ⟨rfl, hb_⟩; refine ⟨_, rfl, hb_, fun H_ => ?_⟩; clear H; have H := H_; clear H_); (try simp only [Act.put, List.setIfInBounds_toArray, List.set_cons_zero, List.set_cons_succ]))) | ((with_reducible refine gate_binG ?_); (refine hp_eqRG rfl rfl rfl rfl (k := .u32) (n := 16) rfl rfl (by kernel_rfl) h2n.out hsn.out hRR.out ?_); (try simp only [Act.put, List.setIfInBounds_toArray, List.set_cons_zero, List.set_cons_succ])))
  all_goals go_ret
  all_goals exact ⟨rfl, below_step hw1.out H.below⟩
set_option maxHeartbeats 40000000 in
set_option maxRecDepth 100000 in
theorem alone_bad (A : Option Addr) (n c : Nat) (ws : List Int) (s : SV) (t : St) (w : World) (h : Aside0 (Rd w s t)) (hl : Aside0 (RdS .u32 w A n c ws)) (hws : Aside0 (∀ x ∈ ws, U32 x)) (hu : Aside0 (∀ x ∈ t.inp, 0 ≤ x ∧ x ≤ 255)) (hf : Aside0 (fewF t = true)) (h5 : decide ((n : Int) > 500) = false) (h5' : decide (500 < n) = false) (he : Aside0 (t.en = false)) (hal : Aside0 (Alone t (t.step ws) (-1))) (ho : decide (s.at_ < (n : Int)) = true) (h0 : 0 ≤ s.at_) (hlt : s.at_ < (n : Int)) (hget : Aside0 (spliceref02_Get.f (rd ws s.at_) = some (0, 0, 0, 0, 0, false))) :
    Calls Try.prog 4 #[.slice A n c, .agg s.c] w fun e w' => e = .returned (.bool true) ∧ Below w.heap.size w w' := by
  have H := Hp.nil w
  have hb := Aside0.mk (few_b h.out hf.out)
  have qs : Aside0 (s.c[22]? = some (.bool false)) := ⟨by rw [g_en, h.out.en, he.out]⟩
  have hsn : Aside0 (s.R.length = 16) := ⟨by rw [h.out.R]; exact h.out.n16⟩
  have o12 : ¬ (-1 : Int) = 12 := by decide
  have o14 : ¬ (-1 : Int) = 14 := by decide
  have o20 : ¬ (-1 : Int) = 20 := by decide
  have o21 : ¬ (-1 : Int) = 21 := by decide
  have o22 : ¬ (-1 : Int) = 22 := by decide
  have o23 : ¬ (-1 : Int) = 23 := by decide
  obtain ⟨ad, rfl, hx⟩ := hl.out.at_ s.at_ h0 hlt
  have hx := Aside0.mk hx
  cases hE : (t.step ws).en
  all_goals replace hE := Aside0.mk hE
  all_goals go_enter Try.func4, Try.ntmps4
  all_goals go_wp2_with (first | ((with_reducible refine gate_guardG ?_); refine hp_guardLG rfl rfl ?_; (with_reducible first | refine go_tt ?_ | refine go_ff ?_ | refine go_tf ?_ | refine go_ft ?_); (try simp only [Act.put, List.setIfInBounds_toArray, List.set_cons_zero, List.set_cons_succ])) | ((with_reducible refine gate_dst (N := 3) rfl ?_); refine hp_box H rfl rfl rfl ?_; intro gs W_ H_; clear H; have H := H_; clear H_) | ((with_reducible refine gate_fnG ?_); (refine hp_goesG H rfl (f := 7) rfl Try.func7 (by kernel_rfl) rfl (awake_c _) (by (try simp only [List.map_toArray, List.map_cons, List.map_nil]); first | done | rfl) ?_; rintro e_ W_ ⟨rfl, hb_⟩; refine ⟨_, rfl, hb_, fun H_ => ?_⟩; clear H; have H := H_; clear H_); (try simp only [Act.put, List.setIfInBounds_toArray, List.set_cons_zero, List.set_cons_succ])) | ((with_reducible refine gate_fnG ?_); (refine hp_goesG H rfl (f := 8) rfl Try.func8 (by kernel_rfl) rfl (few_c s t _ ⟨h.out.below H.below⟩ hf.out) (by (try simp only [List.map_toArray, List.map_cons, List.map_nil]); first | done | rfl) ?_; rintro e_ W_ ⟨rfl, hb_⟩; refine ⟨_, rfl, hb_, fun H_ => ?_⟩; clear H; have H := H_; clear H_); (try simp only [Act.put, List.setIfInBounds_toArray, List.set_cons_zero, List.set_cons_succ])) | ((with_reducible refine gate_dst (N := 24) rfl ?_); ((with_reducible refine gate_fnG ?_); refine hp_goesG H rfl (f := 13) rfl Try.func13 (by kernel_rfl) rfl (step_c s t _ n c ws _ (h.out.below H.below) (hl.out.below H.below) hws.out (by have := hb.out; have := h.out.byt.1; omega) (by have := hb.out; have := h.out.back.1; omega) hu.out) (by (try simp only [List.map_toArray, List.map_cons, List.map_nil]); first | done | rfl) ?_; rintro e_ W_ ⟨s2, rfl, hr2, hb_⟩; refine ⟨_, rfl, hb_, fun H_ => ?_⟩; have hR2 : Aside0 (∀ W9, Below W_.heap.size W_ W9 → Rd W9 s2 (t.step ws)) := ⟨fun W9 h9 => hr2 W9 (fun b _ h2 => h9.block b h2) (h.out.below (below_step H_.below h9))⟩; have hz := hR2.out _ (Below.refl _ _); have fS := Aside0.mk (H_.heap (g := gs) (cs := s.c) (t := 32) (by repeat (first | exact .head _ | refine .tail _ ?_))); have hw1 := Aside0.mk H_.below; clear H H_ hr2; rename World => Wb; have H := Hp.nil Wb; (try have q0 := Aside0.mk (q0_of hz hal.out.r0)); (try have qby := Aside0.mk (qby_of hz h.out hal.out.len)); (try have qwr := Aside0.mk (qwr_of hz h.out hal.out.wr)); (try have qen := Aside0.mk (qen_of hz hE.out)); (try have qat := Aside0.mk (qat_of hz h.out (hal.out.at_ hE.out))); (try have qbk := Aside0.mk (qbk_of hz h.out (hal.out.back o20 o21))); (try have h2n := Aside0.mk (h2n_of hz)); (try have hRR := Aside0.mk (hRR_of hz h.out (hal.out.R hE.out))); (try have hM := Aside0.mk (hM_of hz h.out hal.out.wr (hal.out.byt o12 o14))); (try have hO := Aside0.mk (hO_of (hal.out.out o23))); (try have hI := Aside0.mk (hO_of (hal.out.inp o22))); clear hz; (try simp only [Act.put, List.setIfInBounds_toArray, List.set_cons_zero, List.set_cons_succ]))) | ((with_reducible refine gate_dst (N := 5) rfl ?_); refine hp_alloc H rfl rfl (fun w_ => by go_simp; rfl) ?_; intro gt W_ H_; clear H; have H := H_; clear H_) | ((with_reducible refine gate_dst (N := 7) rfl ?_); refine hp_alloc H rfl rfl (fun w_ => by go_simp; rfl) ?_; intro gi W_ H_; clear H; have H := H_; clear H_) | ((with_reducible refine gate_storeG ?_); ((first | (refine hp_store0G H rfl rfl rfl rfl rfl (by kernel_rfl) (by first | rfl | exact fit_.out) (by rfl) (by first | exact sv_all _ rfl | exact rfl) ?_) | (refine hp_store1G H rfl rfl rfl rfl rfl (by kernel_rfl) (by first | rfl | exact fit_.out) (by rfl) (by first | exact sv_all _ rfl | exact rfl) ?_) | (refine hp_store2G H rfl rfl rfl rfl rfl (by kernel_rfl) (by first | rfl | exact fit_.out) (by rfl) (by first | exact sv_all _ rfl | exact rfl) ?_)); intro W_ H_; clear H; have H := H_; clear H_); (try simp only [Act.put, List.setIfInBounds_toArray, List.set_cons_zero, List.set_cons_succ])) | ((with_reducible refine gate_dst (N := 12) rfl ?_); ((with_reducible refine gate_loadG ?_); (first | (refine hp_wholeG H rfl (ty := 32) rfl rfl (by repeat (first | exact .head _ | refine .tail _ ?_)) (by kernel_rfl) (by kernel_rfl) ?_)); (try simp only [Act.put, List.setIfInBounds_toArray, List.set_cons_zero, List.set_cons_succ]))) | ((with_reducible refine gate_dst (N := 23) rfl ?_); ((with_reducible refine gate_loadG ?_); (first | (refine hp_wholeG H rfl (ty := 32) rfl rfl (by repeat (first | exact .head _ | refine .tail _ ?_)) (by kernel_rfl) (by kernel_rfl) ?_)); (try simp only [Act.put, List.setIfInBounds_toArray, List.set_cons_zero, List.set_cons_succ]))) | ((with_reducible refine gate_dst (N := 44) rfl ?_); ((with_reducible refine gate_loadG ?_); refine hp_atXG rfl rfl rfl (pw_cell_below H.below (pw_cell_below hw1.out hx.out)) (by kernel_rfl) ?_; (try simp only [Act.put, List.setIfInBounds_toArray, List.set_cons_zero, List.set_cons_succ]))) | ((with_reducible refine gate_dst (N := 45) rfl ?_); ((with_reducible refine gate_fnG ?_); (refine hp_goesG H rfl (f := 14) rfl Try.func14 (by kernel_rfl) rfl (spliceref02_Get.calls _ _ _ _ _ _ _ _ hget.out) (by (try simp only [List.map_toArray, List.map_cons, List.map_nil]); first | done | rfl) ?_; rintro e_ W_ ⟨rfl, hb_⟩; refine ⟨_, rfl, hb_, fun H_ => ?_⟩; clear H; have H := H_; clear H_); (try simp only [Act.put, List.setIfInBounds_toArray, List.set_cons_zero, List.set_cons_succ]))) | ((with_reducible refine gate_dst (N := 32) rfl ?_); ((with_reducible refine gate_loadG ?_); (refine hp_loadG H rfl rfl rfl (by repeat (first | exact .head _ | refine .tail _ ?_)) (by kernel_rfl) (by first | exact q0.out) ?_); (try simp only [Act.put, List.setIfInBounds_toArray, List.set_cons_zero, List.set_cons_succ]))) | ((with_reducible refine gate_dst (N := 50) rfl ?_); ((with_reducible refine gate_loadG ?_); (refine hp_loadG H rfl rfl rfl (by repeat (first | exact .head _ | refine .tail _ ?_)) (by kernel_rfl) (by first | exact i_of _ _ _ _ _) ?_); (try simp only [Act.put, List.setIfInBounds_toArray, List.set_cons_zero, List.set_cons_succ]))) | ((with_reducible refine gate_dst (N := 70) rfl ?_); ((with_reducible refine gate_loadG ?_); (refine hp_loadG H rfl rfl rfl (by repeat (first | exact .head _ | refine .tail _ ?_)) (by kernel_rfl) (by first | exact g_out _) ?_); (try simp only [Act.put, List.setIfInBounds_toArray, List.set_cons_zero, List.set_cons_succ]))) | ((with_reducible refine gate_dst (N := 82) rfl ?_); ((with_reducible refine gate_loadG ?_); (refine hp_loadG H rfl rfl rfl (by repeat (first | exact .head _ | refine .tail _ ?_)) (by kernel_rfl) (by first | exact g_inp _) ?_); (try simp only [Act.put, List.setIfInBounds_toArray, List.set_cons_zero, List.set_cons_succ]))) | ((with_reducible refine gate_dst (N := 97) rfl ?_); ((with_reducible refine gate_loadG ?_); (refine hp_loadG H rfl rfl rfl (by repeat (first | exact .head _ | refine .tail _ ?_)) (by kernel_rfl) (by first | exact qbk.out) ?_); (try simp only [Act.put, List.setIfInBounds_toArray, List.set_cons_zero, List.set_cons_succ]))) | ((with_reducible refine gate_dst (N := 106) rfl ?_); ((with_reducible refine gate_loadG ?_); (refine hp_loadG H rfl rfl rfl (by repeat (first | exact .head _ | refine .tail _ ?_)) (by kernel_rfl) (by first | exact qen.out) ?_); (try simp only [Act.put, List.setIfInBounds_toArray, List.set_cons_zero, List.set_cons_succ]))) | ((with_reducible refine gate_dst (N := 109) rfl ?_); ((with_reducible refine gate_loadG ?_); (refine hp_loadG H rfl rfl rfl (by repeat (first | exact .head _ | refine .tail _ ?_)) (by kernel_rfl) (by first | exact qat.out) ?_); (try simp only [Act.put, List.setIfInBounds_toArray, List.set_cons_zero, List.set_cons_succ]))) | ((with_reducible refine gate_dst (N := 117) rfl ?_); ((with_reducible refine gate_loadG ?_); (refine hp_loadG H rfl rfl rfl (by repeat (first | exact .head _ | refine .tail _ ?_)) (by kernel_rfl) (by first | exact qby.out) ?_); (try simp only [Act.put, List.setIfInBounds_toArray, List.set_cons_zero, List.set_cons_succ]))) | ((with_reducible refine gate_dst (N := 127) rfl ?_); ((with_reducible refine gate_loadG ?_); (refine hp_loadG H rfl rfl rfl (by repeat (first | exact .head _ | refine .tail _ ?_)) (by kernel_rfl) (by first | exact qwr.out) ?_); (try simp only [Act.put, List.setIfInBounds_toArray, List.set_cons_zero, List.set_cons_succ]))) | ((with_reducible refine gate_dst (N := 135) rfl ?_); ((with_reducible refine gate_loadG ?_); (refine hp_loadG H rfl rfl rfl (by repeat (first | exact .head _ | refine .tail _ ?_)) (by kernel_rfl) (by first | exact qen.out) ?_); (try simp only [Act.put, List.setIfInBounds_toArray, List.set_cons_zero, List.set_cons_succ]))) | ((with_reducible refine gate_dst (N := 26) rfl ?_); ((with_reducible refine gate_loadG ?_); refine hp_loadXG rfl rfl rfl ((H.below.block _ (blk_lt fS.out)).trans fS.out) (by kernel_rfl) (by first | exact qs.out) ?_; (try simp only [Act.put, List.setIfInBounds_toArray, List.set_cons_zero, List.set_cons_succ]))) | ((with_reducible refine gate_dst (N := 35) rfl ?_); ((with_reducible refine gate_loadG ?_); refine hp_loadXG rfl rfl rfl ((H.below.block _ (blk_lt fS.out)).trans fS.out) (by kernel_rfl) (by first | exact g_at s) ?_; (try simp only [Act.put, List.setIfInBounds_toArray, List.set_cons_zero, List.set_cons_succ]))) | ((with_reducible refine gate_dst (N := 42) rfl ?_); ((with_reducible refine gate_loadG ?_); refine hp_loadXG rfl rfl rfl ((H.below.block _ (blk_lt fS.out)).trans fS.out) (by kernel_rfl) (by first | exact g_at s) ?_; (try simp only [Act.put, List.setIfInBounds_toArray, List.set_cons_zero, List.set_cons_succ]))) | ((with_reducible refine gate_dst (N := 72) rfl ?_); ((with_reducible refine gate_loadG ?_); refine hp_loadXG rfl rfl rfl ((H.below.block _ (blk_lt fS.out)).trans fS.out) (by kernel_rfl) (by first | exact g_out s) ?_; (try simp only [Act.put, List.setIfInBounds_toArray, List.set_cons_zero, List.set_cons_succ]))) | ((with_reducible refine gate_dst (N := 84) rfl ?_); ((with_reducible refine gate_loadG ?_); refine hp_loadXG rfl rfl rfl ((H.below.block _ (blk_lt fS.out)).trans fS.out) (by kernel_rfl) (by first | exact g_inp s) ?_; (try simp only [Act.put, List.setIfInBounds_toArray, List.set_cons_zero, List.set_cons_succ]))) | ((with_reducible refine gate_dst (N := 100) rfl ?_); ((with_reducible refine gate_loadG ?_); refine hp_loadXG rfl rfl rfl ((H.below.block _ (blk_lt fS.out)).trans fS.out) (by kernel_rfl) (by first | exact g_back s) ?_; (try simp only [Act.put, List.setIfInBounds_toArray, List.set_cons_zero, List.set_cons_succ]))) | ((with_reducible refine gate_dst (N := 111) rfl ?_); ((with_reducible refine gate_loadG ?_); refine hp_loadXG rfl rfl rfl ((H.below.block _ (blk_lt fS.out)).trans fS.out) (by kernel_rfl) (by first | exact g_at s) ?_; (try simp only [Act.put, List.setIfInBounds_toArray, List.set_cons_zero, List.set_cons_succ]))) | ((with_reducible refine gate_dst (N := 121) rfl ?_); ((with_reducible refine gate_loadG ?_); refine hp_loadXG rfl rfl rfl ((H.below.block _ (blk_lt fS.out)).trans fS.out) (by kernel_rfl) (by first | exact g_byt s) ?_; (try simp only [Act.put, List.setIfInBounds_toArray, List.set_cons_zero, List.set_cons_succ]))) | ((with_reducible refine gate_dst (N := 130) rfl ?_); ((with_reducible refine gate_loadG ?_); refine hp_loadXG rfl rfl rfl ((H.below.block _ (blk_lt fS.out)).trans fS.out) (by kernel_rfl) (by first | exact g_wr s) ?_; (try simp only [Act.put, List.setIfInBounds_toArray, List.set_cons_zero, List.set_cons_succ]))) | ((with_reducible refine gate_dst (N := 59) rfl ?_); ((with_reducible refine gate_loadG ?_); (refine hp_loadsG H rfl (ty := 30) rfl rfl (by repeat (first | exact .head _ | refine .tail _ ?_)) (by kernel_rfl) (n := 2) (by kernel_rfl) rfl (sv_memx _) ?_); (try simp only [Act.put, List.setIfInBounds_toArray, List.set_cons_zero, List.set_cons_succ]))) | ((with_reducible refine gate_dst (N := 61) rfl ?_); ((with_reducible refine gate_loadG ?_); refine hp_loadsXG (ty := 30) rfl rfl rfl ((H.below.block _ (blk_lt fS.out)).trans fS.out) (by kernel_rfl) (n := 2) (by kernel_rfl) rfl (sv_memx _) ?_; (try simp only [Act.put, List.setIfInBounds_toArray, List.set_cons_zero, List.set_cons_succ]))) | ((with_reducible refine gate_dst (N := 139) rfl ?_); ((with_reducible refine gate_loadG ?_); (refine hp_loadsG H rfl (ty := 27) rfl rfl (by repeat (first | exact .head _ | refine .tail _ ?_)) (by kernel_rfl) (n := 16) (by kernel_rfl) rfl (sv_arr _ h2n.out) ?_); (try simp only [Act.put, List.setIfInBounds_toArray, List.set_cons_zero, List.set_cons_succ]))) | ((with_reducible refine gate_dst (N := 141) rfl ?_); ((with_reducible refine gate_loadG ?_); refine hp_loadsXG (ty := 27) rfl rfl rfl ((H.below.block _ (blk_lt fS.out)).trans fS.out) (by kernel_rfl) (n := 16) (by kernel_rfl) rfl (sv_arr _ hsn.out) ?_; (try simp only [Act.put, List.setIfInBounds_toArray, List.set_cons_zero, List.set_cons_succ]))) | ((with_reducible refine gate_fnG ?_); (refine hp_goesG H rfl (f := 15) rfl Try.func15 (by kernel_rfl) rfl (rmem_c _ _ ((hR2.out _ H.below).byt) ((h.out.byt).below (below_step hw1.out H.below)) hM.out) (by (try simp only [List.map_toArray, List.map_cons, List.map_nil]); first | done | rfl) ?_; rintro e_ W_ ⟨rfl, hb_⟩; refine ⟨_, rfl, hb_, fun H_ => ?_⟩; clear H; have H := H_; clear H_); (try simp only [Act.put, List.setIfInBounds_toArray, List.set_cons_zero, List.set_cons_succ])) | ((with_reducible refine gate_dst (N := 73) rfl ?_); ((with_reducible refine gate_fnG ?_); (refine hp_goesG H rfl (f := 16) rfl Try.func16 (by kernel_rfl) rfl (rsame_c ((hR2.out _ H.below).out) ((h.out.out).below (below_step hw1.out H.below)) hO.out) (by (try simp only [List.map_toArray, List.map_cons, List.map_nil]); first | done | rfl) ?_; rintro e_ W_ ⟨rfl, hb_⟩; refine ⟨_, rfl, hb_, fun H_ => ?_⟩; clear H; have H := H_; clear H_); (try simp only [Act.put, List.setIfInBounds_toArray, List.set_cons_zero, List.set_cons_succ]))) | ((with_reducible refine gate_dst (N := 85) rfl ?_); ((with_reducible refine gate_fnG ?_); (refine hp_goesG H rfl (f := 16) rfl Try.func16 (by kernel_rfl) rfl (rsame_c ((hR2.out _ H.below).inp) ((h.out.inp).below (below_step hw1.out H.below)) hI.out) (by (try simp only [List.map_toArray, List.map_cons, List.map_nil]); first | done | rfl) ?_; rintro e_ W_ ⟨rfl, hb_⟩; refine ⟨_, rfl, hb_, fun H_ => ?_⟩; clear H; have H := H_; clear H_); (try simp only [Act.put, List.setIfInBounds_toArray, List.set_cons_zero, List.set_cons_succ]))) | ((with_reducible refine gate_binG ?_); (refine hp_eqRG rfl rfl rfl rfl (k := .u32) (n := 16) rfl rfl (by kernel_rfl) h2n.out hsn.out hRR.out ?_); (try simp only [Act.put, List.setIfInBounds_toArray, List.set_cons_zero, List.set_cons_succ])))
  all_goals go_ret
  all_goals exact ⟨rfl, below_step hw1.out H.below⟩
set_option maxHeartbeats 40000000 in
set_option maxRecDepth 100000 in
theorem alone_op (A : Option Addr) (n c : Nat) (ws : List Int) (s : SV) (t : St) (w : World) (h : Aside0 (Rd w s t)) (hl : Aside0 (RdS .u32 w A n c ws)) (hws : Aside0 (∀ x ∈ ws, U32 x)) (hu : Aside0 (∀ x ∈ t.inp, 0 ≤ x ∧ x ≤ 255)) (hf : Aside0 (fewF t = true)) (h5 : decide ((n : Int) > 500) = false) (h5' : decide (500 < n) = false) (he : Aside0 (t.en = false)) (op a b i c' : Int) (hal : Aside0 (Alone t (t.step ws) op)) (ho : decide (s.at_ < (n : Int)) = true) (h0 : 0 ≤ s.at_) (hlt : s.at_ < (n : Int)) (hget : Aside0 (spliceref02_Get.f (rd ws s.at_) = some (op, a, b, c', i, true)))
    (hcase : (op = 12 ∨ op = 14 ∨ op = 20 ∨ op = 21 ∨ op = 22 ∨ op = 23) ∨ ((op != 12) = true ∧ (op != 14) = true ∧ (op != 20) = true ∧ (op != 21) = true ∧ (op != 22) = true ∧ (op != 23) = true)) :
    Calls Try.prog 4 #[.slice A n c, .agg s.c] w fun e w' => e = .returned (.bool true) ∧ Below w.heap.size w w' := by
  have H := Hp.nil w
  have hb := Aside0.mk (few_b h.out hf.out)
  have qs : Aside0 (s.c[22]? = some (.bool false)) := ⟨by rw [g_en, h.out.en, he.out]⟩
  have hsn : Aside0 (s.R.length = 16) := ⟨by rw [h.out.R]; exact h.out.n16⟩
  obtain ⟨ad, rfl, hx⟩ := hl.out.at_ s.at_ h0 hlt
  have hx := Aside0.mk hx
  cases hE : (t.step ws).en
  all_goals replace hE := Aside0.mk hE
  all_goals rcases hcase with (rfl | rfl | rfl | rfl | rfl | rfl) | ⟨c12, c14, c20, c21, c22, c23⟩
  all_goals (try have o12 := neq_of hal c12)
  all_goals (try have o12 := neq_of (k := 12) hal rfl)
  all_goals (try have o14 := neq_of hal c14)
  all_goals (try have o14 := neq_of (k := 14) hal rfl)
  all_goals (try have o20 := neq_of hal c20)
  all_goals (try have o20 := neq_of (k := 20) hal rfl)
  all_goals (try have o21 := neq_of hal c21)
  all_goals (try have o21 := neq_of (k := 21) hal rfl)
  all_goals (try have o22 := neq_of hal c22)
  all_goals (try have o22 := neq_of (k := 22) hal rfl)
  all_goals (try have o23 := neq_of hal c23)
  all_goals (try have o23 := neq_of (k := 23) hal rfl)
  all_goals go_enter Try.func4, Try.ntmps4
  all_goals go_wp2_with (first | ((with_reducible refine gate_guardG ?_); refine hp_guardLG rfl rfl ?_; (with_reducible first | refine go_tt ?_ | refine go_ff ?_ | refine go_tf ?_ | refine go_ft ?_); (try simp only [Act.put, List.setIfInBounds_toArray, List.set_cons_zero, List.set_cons_succ])) | ((with_reducible refine gate_dst (N := 3) rfl ?_); refine hp_box H rfl rfl rfl ?_; intro gs W_ H_; clear H; have H := H_; clear H_) | ((with_reducible refine gate_fnG ?_); (refine hp_goesG H rfl (f := 7) rfl Try.func7 (by kernel_rfl) rfl (awake_c _) (by (try simp only [List.map_toArray, List.map_cons, List.map_nil]); first | done | rfl) ?_; rintro e_ W_ ⟨rfl, hb_⟩; refine ⟨_, rfl, hb_, fun H_ => ?_⟩; clear H; have H := H_; clear H_); (try simp only [Act.put, List.setIfInBounds_toArray, List.set_cons_zero, List.set_cons_succ])) | ((with_reducible refine gate_fnG ?_); (refine hp_goesG H rfl (f := 8) rfl Try.func8 (by kernel_rfl) rfl (few_c s t _ ⟨h.out.below H.below⟩ hf.out) (by (try simp only [List.map_toArray, List.map_cons, List.map_nil]); first | done | rfl) ?_; rintro e_ W_ ⟨rfl, hb_⟩; refine ⟨_, rfl, hb_, fun H_ => ?_⟩; clear H; have H := H_; clear H_); (try simp only [Act.put, List.setIfInBounds_toArray, List.set_cons_zero, List.set_cons_succ])) | ((with_reducible refine gate_dst (N := 24) rfl ?_); ((with_reducible refine gate_fnG ?_); refine hp_goesG H rfl (f := 13) rfl Try.func13 (by kernel_rfl) rfl (step_c s t _ n c ws _ (h.out.below H.below) (hl.out.below H.below) hws.out (by have := hb.out; have := h.out.byt.1; omega) (by have := hb.out; have := h.out.back.1; omega) hu.out) (by (try simp only [List.map_toArray, List.map_cons, List.map_nil]); first | done | rfl) ?_; rintro e_ W_ ⟨s2, rfl, hr2, hb_⟩; refine ⟨_, rfl, hb_, fun H_ => ?_⟩; have hR2 : Aside0 (∀ W9, Below W_.heap.size W_ W9 → Rd W9 s2 (t.step ws)) := ⟨fun W9 h9 => hr2 W9 (fun b _ h2 => h9.block b h2) (h.out.below (below_step H_.below h9))⟩; have hz := hR2.out _ (Below.refl _ _); have fS := Aside0.mk (H_.heap (g := gs) (cs := s.c) (t := 32) (by repeat (first | exact .head _ | refine .tail _ ?_))); have hw1 := Aside0.mk H_.below; clear H H_ hr2; rename World => Wb; have H := Hp.nil Wb; (try have q0 := Aside0.mk (q0_of hz hal.out.r0)); (try have qby := Aside0.mk (qby_of hz h.out hal.out.len)); (try have qwr := Aside0.mk (qwr_of hz h.out hal.out.wr)); (try have qen := Aside0.mk (qen_of hz hE.out)); (try have qat := Aside0.mk (qat_of hz h.out (hal.out.at_ hE.out))); (try have qbk := Aside0.mk (qbk_of hz h.out (hal.out.back o20 o21))); (try have h2n := Aside0.mk (h2n_of hz)); (try have hRR := Aside0.mk (hRR_of hz h.out (hal.out.R hE.out))); (try have hM := Aside0.mk (hM_of hz h.out hal.out.wr (hal.out.byt o12 o14))); (try have hO := Aside0.mk (hO_of (hal.out.out o23))); (try have hI := Aside0.mk (hO_of (hal.out.inp o22))); clear hz; (try simp only [Act.put, List.setIfInBounds_toArray, List.set_cons_zero, List.set_cons_succ]))) | ((with_reducible refine gate_dst (N := 5) rfl ?_); refine hp_alloc H rfl rfl (fun w_ => by go_simp; rfl) ?_; intro gt W_ H_; clear H; have H := H_; clear H_) | ((with_reducible refine gate_dst (N := 7) rfl ?_); refine hp_alloc H rfl rfl (fun w_ => by go_simp; rfl) ?_; intro gi W_ H_; clear H; have H := H_; clear H_) | ((with_reducible refine gate_storeG ?_); ((first | (refine hp_store0G H rfl rfl rfl rfl rfl (by kernel_rfl) (by first | rfl | exact fit_.out) (by rfl) (by first | exact sv_all _ rfl | exact rfl) ?_) | (refine hp_store1G H rfl rfl rfl rfl rfl (by kernel_rfl) (by first | rfl | exact fit_.out) (by rfl) (by first | exact sv_all _ rfl | exact rfl) ?_) | (refine hp_store2G H rfl rfl rfl rfl rfl (by kernel_rfl) (by first | rfl | exact fit_.out) (by rfl) (by first | exact sv_all _ rfl | exact rfl) ?_)); intro W_ H_; clear H; have H := H_; clear H_); (try simp only [Act.put, List.setIfInBounds_toArray, List.set_cons_zero, List.set_cons_succ])) | ((with_reducible refine gate_dst (N := 12) rfl ?_); ((with_reducible refine gate_loadG ?_); (first | (refine hp_wholeG H rfl (ty := 32) rfl rfl (by repeat (first | exact .head _ | refine .tail _ ?_)) (by kernel_rfl) (by kernel_rfl) ?_)); (try simp only [Act.put, List.setIfInBounds_toArray, List.set_cons_zero, List.set_cons_succ]))) | ((with_reducible refine gate_dst (N := 23) rfl ?_); ((with_reducible refine gate_loadG ?_); (first | (refine hp_wholeG H rfl (ty := 32) rfl rfl (by repeat (first | exact .head _ | refine .tail _ ?_)) (by kernel_rfl) (by kernel_rfl) ?_)); (try simp only [Act.put, List.setIfInBounds_toArray, List.set_cons_zero, List.set_cons_succ]))) | ((with_reducible refine gate_dst (N := 44) rfl ?_); ((with_reducible refine gate_loadG ?_); refine hp_atXG rfl rfl rfl (pw_cell_below H.below (pw_cell_below hw1.out hx.out)) (by kernel_rfl) ?_; (try simp only [Act.put, List.setIfInBounds_toArray, List.set_cons_zero, List.set_cons_succ]))) | ((with_reducible refine gate_dst (N := 45) rfl ?_); ((with_reducible refine gate_fnG ?_); (refine hp_goesG H rfl (f := 14) rfl Try.func14 (by kernel_rfl) rfl (spliceref02_Get.calls _ _ _ _ _ _ _ _ hget.out) (by (try simp only [List.map_toArray, List.map_cons, List.map_nil]); first | done | rfl) ?_; rintro e_ W_ ⟨rfl, hb_⟩; refine ⟨_, rfl, hb_, fun H_ => ?_⟩; clear H; have H := H_; clear H_); (try simp only [Act.put, List.setIfInBounds_toArray, List.set_cons_zero, List.set_cons_succ]))) | ((with_reducible refine gate_dst (N := 32) rfl ?_); ((with_reducible refine gate_loadG ?_); (refine hp_loadG H rfl rfl rfl (by repeat (first | exact .head _ | refine .tail _ ?_)) (by kernel_rfl) (by first | exact q0.out) ?_); (try simp only [Act.put, List.setIfInBounds_toArray, List.set_cons_zero, List.set_cons_succ]))) | ((with_reducible refine gate_dst (N := 50) rfl ?_); ((with_reducible refine gate_loadG ?_); (refine hp_loadG H rfl rfl rfl (by repeat (first | exact .head _ | refine .tail _ ?_)) (by kernel_rfl) (by first | exact i_of _ _ _ _ _) ?_); (try simp only [Act.put, List.setIfInBounds_toArray, List.set_cons_zero, List.set_cons_succ]))) | ((with_reducible refine gate_dst (N := 70) rfl ?_); ((with_reducible refine gate_loadG ?_); (refine hp_loadG H rfl rfl rfl (by repeat (first | exact .head _ | refine .tail _ ?_)) (by kernel_rfl) (by first | exact g_out _) ?_); (try simp only [Act.put, List.setIfInBounds_toArray, List.set_cons_zero, List.set_cons_succ]))) | ((with_reducible refine gate_dst (N := 82) rfl ?_); ((with_reducible refine gate_loadG ?_); (refine hp_loadG H rfl rfl rfl (by repeat (first | exact .head _ | refine .tail _ ?_)) (by kernel_rfl) (by first | exact g_inp _) ?_); (try simp only [Act.put, List.setIfInBounds_toArray, List.set_cons_zero, List.set_cons_succ]))) | ((with_reducible refine gate_dst (N := 97) rfl ?_); ((with_reducible refine gate_loadG ?_); (refine hp_loadG H rfl rfl rfl (by repeat (first | exact .head _ | refine .tail _ ?_)) (by kernel_rfl) (by first | exact qbk.out) ?_); (try simp only [Act.put, List.setIfInBounds_toArray, List.set_cons_zero, List.set_cons_succ]))) | ((with_reducible refine gate_dst (N := 106) rfl ?_); ((with_reducible refine gate_loadG ?_); (refine hp_loadG H rfl rfl rfl (by repeat (first | exact .head _ | refine .tail _ ?_)) (by kernel_rfl) (by first | exact qen.out) ?_); (try simp only [Act.put, List.setIfInBounds_toArray, List.set_cons_zero, List.set_cons_succ]))) | ((with_reducible refine gate_dst (N := 109) rfl ?_); ((with_reducible refine gate_loadG ?_); (refine hp_loadG H rfl rfl rfl (by repeat (first | exact .head _ | refine .tail _ ?_)) (by kernel_rfl) (by first | exact qat.out) ?_); (try simp only [Act.put, List.setIfInBounds_toArray, List.set_cons_zero, List.set_cons_succ]))) | ((with_reducible refine gate_dst (N := 117) rfl ?_); ((with_reducible refine gate_loadG ?_); (refine hp_loadG H rfl rfl rfl (by repeat (first | exact .head _ | refine .tail _ ?_)) (by kernel_rfl) (by first | exact qby.out) ?_); (try simp only [Act.put, List.setIfInBounds_toArray, List.set_cons_zero, List.set_cons_succ]))) | ((with_reducible refine gate_dst (N := 127) rfl ?_); ((with_reducible refine gate_loadG ?_); (refine hp_loadG H rfl rfl rfl (by repeat (first | exact .head _ | refine .tail _ ?_)) (by kernel_rfl) (by first | exact qwr.out) ?_); (try simp only [Act.put, List.setIfInBounds_toArray, List.set_cons_zero, List.set_cons_succ]))) | ((with_reducible refine gate_dst (N := 135) rfl ?_); ((with_reducible refine gate_loadG ?_); (refine hp_loadG H rfl rfl rfl (by repeat (first | exact .head _ | refine .tail _ ?_)) (by kernel_rfl) (by first | exact qen.out) ?_); (try simp only [Act.put, List.setIfInBounds_toArray, List.set_cons_zero, List.set_cons_succ]))) | ((with_reducible refine gate_dst (N := 26) rfl ?_); ((with_reducible refine gate_loadG ?_); refine hp_loadXG rfl rfl rfl ((H.below.block _ (blk_lt fS.out)).trans fS.out) (by kernel_rfl) (by first | exact qs.out) ?_; (try simp only [Act.put, List.setIfInBounds_toArray, List.set_cons_zero, List.set_cons_succ]))) | ((with_reducible refine gate_dst (N := 35) rfl ?_); ((with_reducible refine gate_loadG ?_); refine hp_loadXG rfl rfl rfl ((H.below.block _ (blk_lt fS.out)).trans fS.out) (by kernel_rfl) (by first | exact g_at s) ?_; (try simp only [Act.put, List.setIfInBounds_toArray, List.set_cons_zero, List.set_cons_succ]))) | ((with_reducible refine gate_dst (N := 42) rfl ?_); ((with_reducible refine gate_loadG ?_); refine hp_loadXG rfl rfl rfl ((H.below.block _ (blk_lt fS.out)).trans fS.out) (by kernel_rfl) (by first | exact g_at s) ?_; (try simp only [Act.put, List.setIfInBounds_toArray, List.set_cons_zero, List.set_cons_succ]))) | ((with_reducible refine gate_dst (N := 72) rfl ?_); ((with_reducible refine gate_loadG ?_); refine hp_loadXG rfl rfl rfl ((H.below.block _ (blk_lt fS.out)).trans fS.out) (by kernel_rfl) (by first | exact g_out s) ?_; (try simp only [Act.put, List.setIfInBounds_toArray, List.set_cons_zero, List.set_cons_succ]))) | ((with_reducible refine gate_dst (N := 84) rfl ?_); ((with_reducible refine gate_loadG ?_); refine hp_loadXG rfl rfl rfl ((H.below.block _ (blk_lt fS.out)).trans fS.out) (by kernel_rfl) (by first | exact g_inp s) ?_; (try simp only [Act.put, List.setIfInBounds_toArray, List.set_cons_zero, List.set_cons_succ]))) | ((with_reducible refine gate_dst (N := 100) rfl ?_); ((with_reducible refine gate_loadG ?_); refine hp_loadXG rfl rfl rfl ((H.below.block _ (blk_lt fS.out)).trans fS.out) (by kernel_rfl) (by first | exact g_back s) ?_; (try simp only [Act.put, List.setIfInBounds_toArray, List.set_cons_zero, List.set_cons_succ]))) | ((with_reducible refine gate_dst (N := 111) rfl ?_); ((with_reducible refine gate_loadG ?_); refine hp_loadXG rfl rfl rfl ((H.below.block _ (blk_lt fS.out)).trans fS.out) (by kernel_rfl) (by first | exact g_at s) ?_; (try simp only [Act.put, List.setIfInBounds_toArray, List.set_cons_zero, List.set_cons_succ]))) | ((with_reducible refine gate_dst (N := 121) rfl ?_); ((with_reducible refine gate_loadG ?_); refine hp_loadXG rfl rfl rfl ((H.below.block _ (blk_lt fS.out)).trans fS.out) (by kernel_rfl) (by first | exact g_byt s) ?_; (try simp only [Act.put, List.setIfInBounds_toArray, List.set_cons_zero, List.set_cons_succ]))) | ((with_reducible refine gate_dst (N := 130) rfl ?_); ((with_reducible refine gate_loadG ?_); refine hp_loadXG rfl rfl rfl ((H.below.block _ (blk_lt fS.out)).trans fS.out) (by kernel_rfl) (by first | exact g_wr s) ?_; (try simp only [Act.put, List.setIfInBounds_toArray, List.set_cons_zero, List.set_cons_succ]))) | ((with_reducible refine gate_dst (N := 59) rfl ?_); ((with_reducible refine gate_loadG ?_); (refine hp_loadsG H rfl (ty := 30) rfl rfl (by repeat (first | exact .head _ | refine .tail _ ?_)) (by kernel_rfl) (n := 2) (by kernel_rfl) rfl (sv_memx _) ?_); (try simp only [Act.put, List.setIfInBounds_toArray, List.set_cons_zero, List.set_cons_succ]))) | ((with_reducible refine gate_dst (N := 61) rfl ?_); ((with_reducible refine gate_loadG ?_); refine hp_loadsXG (ty := 30) rfl rfl rfl ((H.below.block _ (blk_lt fS.out)).trans fS.out) (by kernel_rfl) (n := 2) (by kernel_rfl) rfl (sv_memx _) ?_; (try simp only [Act.put, List.setIfInBounds_toArray, List.set_cons_zero, List.set_cons_succ]))) | ((with_reducible refine gate_dst (N := 139) rfl ?_); ((with_reducible refine gate_loadG ?_); (refine hp_loadsG H rfl (ty := 27) rfl rfl (by repeat (first | exact .head _ | refine .tail _ ?_)) (by kernel_rfl) (n := 16) (by kernel_rfl) rfl (sv_arr _ h2n.out) ?_); (try simp only [Act.put, List.setIfInBounds_toArray, List.set_cons_zero, List.set_cons_succ]))) | ((with_reducible refine gate_dst (N := 141) rfl ?_); ((with_reducible refine gate_loadG ?_); refine hp_loadsXG (ty := 27) rfl rfl rfl ((H.below.block _ (blk_lt fS.out)).trans fS.out) (by kernel_rfl) (n := 16) (by kernel_rfl) rfl (sv_arr _ hsn.out) ?_; (try simp only [Act.put, List.setIfInBounds_toArray, List.set_cons_zero, List.set_cons_succ]))) | ((with_reducible refine gate_fnG ?_); (refine hp_goesG H rfl (f := 15) rfl Try.func15 (by kernel_rfl) rfl (rmem_c _ _ ((hR2.out _ H.below).byt) ((h.out.byt).below (below_step hw1.out H.below)) hM.out) (by (try simp only [List.map_toArray, List.map_cons, List.map_nil]); first | done | rfl) ?_; rintro e_ W_ ⟨rfl, hb_⟩; refine ⟨_, rfl, hb_, fun H_ => ?_⟩; clear H; have H := H_; clear H_); (try simp only [Act.put, List.setIfInBounds_toArray, List.set_cons_zero, List.set_cons_succ])) | ((with_reducible refine gate_dst (N := 73) rfl ?_); ((with_reducible refine gate_fnG ?_); (refine hp_goesG H rfl (f := 16) rfl Try.func16 (by kernel_rfl) rfl (rsame_c ((hR2.out _ H.below).out) ((h.out.out).below (below_step hw1.out H.below)) hO.out) (by (try simp only [List.map_toArray, List.map_cons, List.map_nil]); first | done | rfl) ?_; rintro e_ W_ ⟨rfl, hb_⟩; refine ⟨_, rfl, hb_, fun H_ => ?_⟩; clear H; have H := H_; clear H_); (try simp only [Act.put, List.setIfInBounds_toArray, List.set_cons_zero, List.set_cons_succ]))) | ((with_reducible refine gate_dst (N := 85) rfl ?_); ((with_reducible refine gate_fnG ?_); (refine hp_goesG H rfl (f := 16) rfl Try.func16 (by kernel_rfl) rfl (rsame_c ((hR2.out _ H.below).inp) ((h.out.inp).below (below_step hw1.out H.below)) hI.out) (by (try simp only [List.map_toArray, List.map_cons, List.map_nil]); first | done | rfl) ?_; rintro e_ W_ ⟨rfl, hb_⟩; refine ⟨_, rfl, hb_, fun H_ => ?_⟩; clear H; have H := H_; clear H_); (try simp only [Act.put, List.setIfInBounds_toArray, List.set_cons_zero, List.set_cons_succ]))) | ((with_reducible refine gate_binG ?_); (refine hp_eqRG rfl rfl rfl rfl (k := .u32) (n := 16) rfl rfl (by kernel_rfl) h2n.out hsn.out hRR.out ?_); (try simp only [Act.put, List.setIfInBounds_toArray, List.set_cons_zero, List.set_cons_succ])))
  all_goals go_ret
  all_goals exact ⟨rfl, below_step hw1.out H.below⟩
theorem alone_c (A : Option Addr) (n c : Nat) (ws : List Int) (s : SV) (t : St) (w : World) (h : Rd w s t) (hl : RdS .u32 w A n c ws) (hws : ∀ x ∈ ws, U32 x) (hu : ∀ x ∈ t.inp, 0 ≤ x ∧ x ≤ 255) :
    Calls Try.prog 4 #[.slice A n c, .agg s.c] w fun e w' => e = .returned (.bool true) ∧ Below w.heap.size w w' := by
  cases hf : fewF t
  · exact alone_few A n c ws s t w ⟨h⟩ ⟨hf⟩
  by_cases h5 : 500 < n
  · exact alone_long A n c ws s t w ⟨h⟩ ⟨hf⟩ (by simp; omega) (by simpa using h5)
  have h5a : decide ((n : Int) > 500) = false := by simp; omega
  have h5b : decide (500 < n) = false := by simpa using h5
  cases he : t.en
  rotate_left
  · exact alone_ended A n c ws s t w ⟨h⟩ ⟨hl⟩ ⟨hws⟩ ⟨hu⟩ ⟨hf⟩ h5a h5b ⟨he⟩
  have hr := (few_b h hf).1
  have h0 : 0 ≤ t.at_ := by unfold rightF okP at hr; simp at hr; exact hr.2.1.1
  have hal := step_alone t ws hr he _ rfl
  by_cases ho : t.at_ < (ws.length : Int)
  · rw [if_pos ho] at hal
    have hx : U32 (rd ws t.at_) := hws _ (by
      unfold rd
      rw [List.getD_eq_getElem?_getD, List.getElem?_eq_getElem (show t.at_.toNat < ws.length by omega)]
      exact List.getElem_mem _)
    have hg := ref_get_eq hx
    have z0 : 0 ≤ s.at_ := by rw [h.at_]; exact h0
    have z1 : s.at_ < (n : Int) := by rw [h.at_, hl.1]; exact ho
    rw [← h.at_] at hg hal
    cases hq : gW (rd ws s.at_) with
    | none =>
      rw [hq] at hg hal
      exact alone_bad A n c ws s t w ⟨h⟩ ⟨hl⟩ ⟨hws⟩ ⟨hu⟩ ⟨hf⟩ h5a h5b ⟨he⟩ ⟨hal⟩ (decide_eq_true z1) z0 z1 ⟨hg⟩
    | some q =>
      obtain ⟨o, a, b, c', i⟩ := q
      rw [hq] at hg hal
      exact alone_op A n c ws s t w ⟨h⟩ ⟨hl⟩ ⟨hws⟩ ⟨hu⟩ ⟨hf⟩ h5a h5b ⟨he⟩ o a b i c' ⟨hal⟩ (decide_eq_true z1) z0 z1 ⟨hg⟩ (by simp only [bne_iff_ne, ne_eq]; omega)
  · rw [if_neg ho] at hal
    exact alone_out A n c ws s t w ⟨h⟩ ⟨hl⟩ ⟨hws⟩ ⟨hu⟩ ⟨hf⟩ h5a h5b ⟨he⟩ ⟨hal⟩ (by rw [h.at_, hl.1]; exact decide_eq_false ho)
end Go.Proofs.Ytgaggfekgkedpaa.Cpu
end
section
/- The row of the law CpuAlone: whatever its arguments, the call returns true, and each argument reads behind it as it read before. No conditions. A template, printed by gen_row06.py. -/
namespace Go.Proofs.Ytgaggfekgkedpaa.cpuAlone
open Go.ChangeShapes Go.WideShapes Go.ChangeAt Go.RowKit Go.Proofs.Ytgaggfekgkedpaa.Q Go.Proofs.Ytgaggfekgkedpaa.Cpu Go.Proofs.Ytgaggfekgkedpaa.Hp Go.Proofs.YtgaggfekgkedpaaW.PrintWords
open Go.ChangeMaps (open_string shut_string)
set_option linter.unusedVariables false
theorem own : ownKnob Try.prog.godebug = none := by kernel_rfl
theorem laidOut : laidOutB Try.prog = true := by kernel_rfl
set_option maxRecDepth 100000 in
set_option maxHeartbeats 4000000 in
theorem lifted (os : Os) (started : os.Started) (H : Type) (enc : TypeId × Value → H) :
    ReturnsInHanded {} Try.checked os 4 .any (Rows.cpuAloneSpec.pre6 enc Try.prog Try.f4 Rows.cpuAloneRow.domain false) (Rows.cpuAloneSpec.post enc Try.prog Try.f4 false true false false) := by
  refine returnsInHanded_of_change_sized (C := Try.checked) own started (by kernel_rfl) Try.func4
    (ChangeSpec.witness6 (enc := enc) (C := Try.checked) false ⟨#[], #[(.slice none 0 0), (.agg #[.int .i64 0, .int .u32 0, .int .u32 0, .int .u32 0, .int .u32 0, .int .u32 0, .int .u32 0, .int .u32 0, .int .u32 0, .int .u32 0, .int .u32 0, .int .u32 0, .int .u32 0, .int .u32 0, .int .u32 0, .int .u32 0, .int .u32 0, .slice none 0 0, .int .i64 0, .slice none 0 0, .slice none 0 0, .slice none 0 0, .bool false, .int .u32 0, .int .i64 0])], []⟩ 8 (by kernel_rfl) (by kernel_rfl) (by kernel_rfl) (by kernel_rfl)) ?_
  intro W base args ds gs before hval0 hW hcnd hsz0 _
  have hsz : (DataW.weightsEach Try.prog (Try.f4.params.toList ++ Rows.cpuAloneSpec.plain.varTypes Try.prog) (ds ++ gs)).all (· ≤ reachBytes) = true := hsz0
  have hval : ∀ (j : Nat) t v, Try.f4.params[j]? = some t → args[j]? = some v → Value.okWide Try.prog W .any base t v := hval0
  have hW' := hW
  obtain ⟨p, q, hA0, hV, rfl, hfz, hnd⟩ := hW
  have hA : DataW.TrodAll enc Try.prog W 0 (fun _ => true) true Try.f4.params.toList args.toList ds p := hA0
  rw [Try.params4] at hA hval hsz
  obtain ⟨v0, vs0, d0, ds0, p0, q0, hargs, rfl, rfl, h0, r0⟩ := trodAll_cons hA
  obtain ⟨v1, vs1, d1, ds1, p1, q1, rfl, rfl, rfl, h1, r1⟩ := trodAll_cons r0
  obtain ⟨rfl, rfl, rfl⟩ := trodAll_nil r1
  obtain rfl : args = #[v0, v1] := by cases args; simp_all
  obtain ⟨rfl, rfl⟩ := trodVars_none hV
  have k0 := h0
  have lt0 : ∀ x ∈ p0, x.block < W.heap.size := by obtain ⟨m, hm⟩ := k0; exact DataW.trod_lt m _ _ _ hm
  obtain ⟨a0, len0, cap0, rfl⟩ := okWide_slice Try.underlying22 (hval 0 22 v0 rfl rfl)
  obtain ⟨A0, n0, c0, l0, e0, hr0, wf0, hb0⟩ := rds_trod (B := 4) Try.underlying22 Try.underlying26 (by kernel_rfl) (by kernel_rfl) hsz (j := 0) (t := 22) rfl rfl h0
  simp only [Value.cells, List.cons.injEq, and_true, Value.slice.injEq] at e0
  obtain ⟨rfl, rfl, rfl⟩ := e0
  have k1 := h1
  have lt1 : ∀ x ∈ p1, x.block < W.heap.size := by obtain ⟨m, hm⟩ := k1; exact DataW.trod_lt m _ _ _ hm
  obtain ⟨cs1, rfl, sz1⟩ := okWide_struct Try.underlying32 (hval 1 32 v1 rfl rfl)
  obtain ⟨s1, t1, e1, hr1, wf1⟩ := st_trod hsz (j := 1) rfl rfl h1
  obtain rfl : cs1 = s1.c := by apply Array.ext'; exact e1
  clear hA0 hval0 hsz0 hsz
  refine (alone_c _ _ _ l0 s1 t1 W hr1 hr0 (fun x hx => wf_u32 (wf0 x hx)) (fun x hx => wf1.inp x hx)).mono ?_
  rintro e W' ⟨rfl, bel⟩
  exact ⟨_, rfl, _, _, _, [], _, [], hW', trodAll_mk1 (shut_bool Try.underlying4 _), (trodAll_cons_mk (Below.trod laidOut (by kernel_rfl) (of_decide_eq_true (by kernel_rfl)) k0 bel lt0) (trodAll_cons_mk (Below.trod laidOut (by kernel_rfl) (of_decide_eq_true (by kernel_rfl)) k1 bel lt1) trodAll_mk0)), rfl, bel.frame _, fun h => by cases h⟩
theorem over : Rows.cpuAloneRow.holds Try.pinned (OpenSpec.ofChange Rows.cpuAloneSpec) :=
  OpenClaim.holds_of_wide 4 Try.f4 rfl rfl rfl rfl rfl rfl rfl ⟨rfl, rfl, rfl, rfl, rfl⟩ rfl rfl rfl rfl rfl (by kernel_rfl) Try.func4 (by kernel_rfl)
    (of_decide_eq_true (by kernel_rfl)) (by unfold Func.isWrapper; first | (rw [if_pos (by decide +kernel)]; kernel_rfl) | (rw [if_neg (by decide +kernel)]; exact ⟨rfl, rfl⟩))
    (fun os started H enc _ => lifted os started H enc)
theorem proved : Rows.CpuAloneSaid := over
#print axioms proved
end Go.Proofs.Ytgaggfekgkedpaa.cpuAlone
namespace Go.Proofs.Ytgaggfekgkedpaa
theorem cpuAlone_holds : Rows.CpuAloneSaid := cpuAlone.proved
end Go.Proofs.Ytgaggfekgkedpaa
end