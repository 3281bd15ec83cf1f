-- Written by drv.py, a program of this session, over the kit's print, out of the translation. Not trusted: Lean checks it.
import Derived.Test.YtcagccodmmcnfaaQD0
import Derived.Test.YtcagccodmmcnfaaQ39
import Derived.Test.YtcagccodmmcnfaaQ59
import Derived.Test.YtcagccodmmcnfaaQB
namespace Go.Proofs.Ytcagccodmmcnfaa.Q
open Go.RowKit Go.Proofs.YtcagccodmmcnfaaW.PrintWords Go.Proofs.YtcagccodmmcnfaaW.PrintLast Go.Proofs.YtcagccodmmcnfaaW.PrintMore
attribute [local go_sem] max2_int min2_int max_two min_two max_three min_three max_four min_four   -- for this text's walks alone
set_option linter.unusedVariables false
set_option linter.unusedSimpArgs false

theorem blkc60_5 {w : World} {g : Nat} {t : TypeId} {v0 v1 v2 v3 v4 : Value} (h : w.heap[g]? = some (.cells #[v0, v1, v2, v3, v4] t (0, 0))) : w.cell? ⟨g, 0, none⟩ = some v0 ∧ w.cell? ⟨g, 1, none⟩ = some v1 ∧ w.cell? ⟨g, 2, none⟩ = some v2 ∧ w.cell? ⟨g, 3, none⟩ = some v3 ∧ w.cell? ⟨g, 4, none⟩ = some v4 := ⟨(blk_cell h 0).trans rfl, (blk_cell h 1).trans rfl, (blk_cell h 2).trans rfl, (blk_cell h 3).trans rfl, (blk_cell h 4).trans rfl⟩
theorem blkf60_5 {w : World} {g : Nat} {t : TypeId} {cs : Array Value} (h : w.heap[g]? = some (.cells cs t (0, 0))) : w.frozen? ⟨g, 0, none⟩ = false ∧ w.frozen? ⟨g, 1, none⟩ = false ∧ w.frozen? ⟨g, 2, none⟩ = false ∧ w.frozen? ⟨g, 3, none⟩ = false ∧ w.frozen? ⟨g, 4, none⟩ = false := ⟨blk_frozen h 0, blk_frozen h 1, blk_frozen h 2, blk_frozen h 3, blk_frozen h 4⟩
set_option maxHeartbeats 8000000 in
set_option maxRecDepth 100000 in
theorem spliceref04_Do.calls (k : Nat) (a0_0 : Int) (a0_1 : Int) (a0_2 : Int) (a0_3 : Int) (a0_4 : Int) (a1 : Int) (a2 : Int) (r : Int) (w : World) (h : spliceref04_Do.f k a0_0 a0_1 a0_2 a0_3 a0_4 a1 a2 = some r) :
    Calls Try.prog 27 #[.agg #[.int .i64 a0_0, .int .i64 a0_1, .int .i64 a0_2, .int .i64 a0_3, .int .i64 a0_4], .int .u32 a1, .int .u32 a2] w fun e w' => e = .returned (.int .u32 r) ∧ Below w.heap.size w w' := by
 have hu55 := Try.underlying55
 have HB := Aside0.mk (Below.refl w.heap.size w)
 have H : (if a0_0 = 1 then ((spliceref04_word.f (wrap64 ((wrap64 (a1)) + (wrap64 (a2))))).bind fun t335 => (some t335)) else (if a0_0 = 2 then ((spliceref04_word.f (wrap64 ((wrap64 (a1)) - (wrap64 (a2))))).bind fun t336 => (some t336)) else (if a0_0 ≥ 3 then (spliceref04_Do.j0 k a1 a2 (wrap64 (a1)) (wrap64 (a2)) (decide (a0_0 ≤ 5)) a0_0 a0_1 a0_2 a0_3 a0_4) else (spliceref04_Do.j0 k a1 a2 (wrap64 (a1)) (wrap64 (a2)) false a0_0 a0_1 a0_2 a0_3 a0_4)))) = some r := h
 clear h
 by_cases c4 : a0_0 = 1
 ·
  rw [if_pos c4] at H
  have c4b0 : (a0_0 == 1) = true := beq_iff_eq.mpr c4
  have c4b1 : (a0_0 != 1) = false := bne_eq_false_iff_eq.mpr c4
  clear c4
  replace H := Option.bind_eq_some_iff.mp H
  obtain ⟨t335, A50, H⟩ := H
  replace H : (some t335) = some r := H
  have A5 := Aside0.mk A50
  clear A50
  obtain rfl := Option.some.inj H
  go_enter Try.func27, Try.ntmps27
  go_wp2_with (first | ((with_reducible refine gate_dst (N := 3) rfl ?_); refine box_event ?hg (N := 3) ?hd (cs := #[.int .i64 a0_0, .int .i64 a0_1, .int .i64 a0_2, .int .i64 a0_3, .int .i64 a0_4]) (t := 55) ?hr ?_; (case hd => rfl); (case hg => rfl); (case hr => first | (go_simp; done) | (go_simp; rfl)); intro gb334 hg w6 hbox hb; have n0_ := Aside0.mk (below_step (by apply_rules (transparency := .reducible) only [HB.out, below_alloc, pw_below_drewN, below_drew1]) hb); have n1_ := Aside0.mk (hbox); have n2_ := Aside0.mk ((by rw [hg]; exact (below_size (by apply_rules (transparency := .reducible) only [HB.out, below_alloc, pw_below_drewN, below_drew1])) : w.heap.size ≤ gb334)); have n3_ := Aside0.mk ((by rw [hg]; exact (below_size (by apply_rules (transparency := .reducible) only [HB.out, below_alloc, pw_below_drewN, below_drew1])) : w.heap.size ≤ gb334)); clear HB; have HB := n0_; have BK334 := n1_; have GW334 := n2_; have GE334 := n3_; clear n0_ n1_ n2_ n3_; clear hb hbox hg; obtain ⟨hcz7_0, hcz7_1, hcz7_2, hcz7_3, hcz7_4⟩ := blkc60_5 BK334.out; obtain ⟨hfz7_0, hfz7_1, hfz7_2, hfz7_3, hfz7_4⟩ := blkf60_5 BK334.out) | ((with_reducible refine gate_callee (f := 42) rfl ?_); refine goesL_ (some 19) rfl rfl Try.func42 (by kernel_rfl) rfl #[.int .i64 (wrap64 ((wrap64 (a1)) + (wrap64 (a2))))] rfl (by (try simp only [List.map_toArray, List.map_cons, List.map_nil]); first | done | rfl | (simp only [List.length_drop, List.length_take]; rfl)) ?_; (with_reducible refine (spliceref04_word.calls (wrap64 ((wrap64 (a1)) + (wrap64 (a2)))) t335 _ A5.out).mono ?_); rintro e w' ⟨rfl, ⟨nd, rfl⟩⟩; refine ⟨_, rfl, ?_⟩))
  go_ret
  exact ⟨by first | rfl | (simp [errW_none, errW_some] <;> rfl) | (simp [*, errW_none, errW_some] <;> rfl), by apply_rules (transparency := .reducible) only [HB.out, below_alloc, pw_below_drewN, below_drew1, below_set, GE334.out]⟩
 ·
  rw [if_neg c4] at H
  have c4b0 : (a0_0 == 1) = false := beq_eq_false_iff_ne.mpr c4
  have c4b1 : (a0_0 != 1) = true := bne_iff_ne.mpr c4
  by_cases c8 : a0_0 = 2
  ·
   rw [if_pos c8] at H
   have c8b0 : (a0_0 == 2) = true := beq_iff_eq.mpr c8
   have c8b1 : (a0_0 != 2) = false := bne_eq_false_iff_eq.mpr c8
   clear c8
   replace H := Option.bind_eq_some_iff.mp H
   obtain ⟨t336, A90, H⟩ := H
   replace H : (some t336) = some r := H
   have A9 := Aside0.mk A90
   clear A90
   obtain rfl := Option.some.inj H
   go_enter Try.func27, Try.ntmps27
   go_wp2_with (first | ((with_reducible refine gate_dst (N := 3) rfl ?_); refine box_event ?hg (N := 3) ?hd (cs := #[.int .i64 a0_0, .int .i64 a0_1, .int .i64 a0_2, .int .i64 a0_3, .int .i64 a0_4]) (t := 55) ?hr ?_; (case hd => rfl); (case hg => rfl); (case hr => first | (go_simp; done) | (go_simp; rfl)); intro gb334 hg w10 hbox hb; have n0_ := Aside0.mk (below_step (by apply_rules (transparency := .reducible) only [HB.out, below_alloc, pw_below_drewN, below_drew1]) hb); have n1_ := Aside0.mk (hbox); have n2_ := Aside0.mk ((by rw [hg]; exact (below_size (by apply_rules (transparency := .reducible) only [HB.out, below_alloc, pw_below_drewN, below_drew1])) : w.heap.size ≤ gb334)); have n3_ := Aside0.mk ((by rw [hg]; exact (below_size (by apply_rules (transparency := .reducible) only [HB.out, below_alloc, pw_below_drewN, below_drew1])) : w.heap.size ≤ gb334)); clear HB; have HB := n0_; have BK334 := n1_; have GW334 := n2_; have GE334 := n3_; clear n0_ n1_ n2_ n3_; clear hb hbox hg; obtain ⟨hcz11_0, hcz11_1, hcz11_2, hcz11_3, hcz11_4⟩ := blkc60_5 BK334.out; obtain ⟨hfz11_0, hfz11_1, hfz11_2, hfz11_3, hfz11_4⟩ := blkf60_5 BK334.out) | ((with_reducible refine gate_callee (f := 42) rfl ?_); refine goesL_ (some 26) rfl rfl Try.func42 (by kernel_rfl) rfl #[.int .i64 (wrap64 ((wrap64 (a1)) - (wrap64 (a2))))] rfl (by (try simp only [List.map_toArray, List.map_cons, List.map_nil]); first | done | rfl | (simp only [List.length_drop, List.length_take]; rfl)) ?_; (with_reducible refine (spliceref04_word.calls (wrap64 ((wrap64 (a1)) - (wrap64 (a2)))) t336 _ A9.out).mono ?_); rintro e w' ⟨rfl, ⟨nd, rfl⟩⟩; refine ⟨_, rfl, ?_⟩))
   go_ret
   exact ⟨by first | rfl | (simp [errW_none, errW_some] <;> rfl) | (simp [*, errW_none, errW_some] <;> rfl), by apply_rules (transparency := .reducible) only [HB.out, below_alloc, pw_below_drewN, below_drew1, below_set, GE334.out]⟩
  ·
   rw [if_neg c8] at H
   have c8b0 : (a0_0 == 2) = false := beq_eq_false_iff_ne.mpr c8
   have c8b1 : (a0_0 != 2) = true := bne_iff_ne.mpr c8
   have HC12 := Aside0.mk H
   clear H
   go_enter Try.func27, Try.ntmps27
   go_upto_region 7 with (first | ((with_reducible refine gate_dst (N := 3) rfl ?_); refine box_event ?hg (N := 3) ?hd (cs := #[.int .i64 a0_0, .int .i64 a0_1, .int .i64 a0_2, .int .i64 a0_3, .int .i64 a0_4]) (t := 55) ?hr ?_; (case hd => rfl); (case hg => rfl); (case hr => first | (go_simp; done) | (go_simp; rfl)); intro gb334 hg w13 hbox hb; have n0_ := Aside0.mk (below_step (by apply_rules (transparency := .reducible) only [HB.out, below_alloc, pw_below_drewN, below_drew1]) hb); have n1_ := Aside0.mk (hbox); have n2_ := Aside0.mk ((by rw [hg]; exact (below_size (by apply_rules (transparency := .reducible) only [HB.out, below_alloc, pw_below_drewN, below_drew1])) : w.heap.size ≤ gb334)); have n3_ := Aside0.mk ((by rw [hg]; exact (below_size (by apply_rules (transparency := .reducible) only [HB.out, below_alloc, pw_below_drewN, below_drew1])) : w.heap.size ≤ gb334)); clear HB; have HB := n0_; have BK334 := n1_; have GW334 := n2_; have GE334 := n3_; clear n0_ n1_ n2_ n3_; clear hb hbox hg; obtain ⟨hcz14_0, hcz14_1, hcz14_2, hcz14_3, hcz14_4⟩ := blkc60_5 BK334.out; obtain ⟨hfz14_0, hfz14_1, hfz14_2, hfz14_3, hfz14_4⟩ := blkf60_5 BK334.out))
   (try simp only [Act.put, List.setIfInBounds_toArray, List.set_cons_zero, List.set_cons_succ])
   go_cut [34] (fun v34 wc => ∃ (kq : Nat) (x34_11 : Bool), v34 = .bool x34_11 ∧ Aside0 (spliceref04_Do.j0 kq a1 a2 (wrap64 (a1)) (wrap64 (a2)) x34_11 a0_0 a0_1 a0_2 a0_3 a0_4 = some r) ∧ Aside0 (kq ≤ k) ∧ Aside0 (wc.heap[gb334]? = some (.cells #[.int .i64 a0_0, .int .i64 a0_1, .int .i64 a0_2, .int .i64 a0_3, .int .i64 a0_4] 55 (0, 0))) ∧ Aside0 (Below w.heap.size w wc))
   case first =>
    have H := HC12.out
    clear HC12
    by_cases c15 : a0_0 ≥ 3
    ·
     rw [if_pos c15] at H
     have c15b0 : decide (3 ≤ a0_0) = true := decide_eq_true c15
     clear c15
     (first | (generalize hb_ : decide (3 ≤ a0_0) = bb_ at *; subst c15b0; have c15b0 := hb_; clear hb_) | rw [c15b0] | (simp only [i64_w, i32_w]; rw [c15b0]) | skip)
     have H' := Aside0.mk H
     clear H
     obtain ⟨hcz16_0, hcz16_1, hcz16_2, hcz16_3, hcz16_4⟩ := blkc60_5 BK334.out
     obtain ⟨hfz16_0, hfz16_1, hfz16_2, hfz16_3, hfz16_4⟩ := blkf60_5 BK334.out
     go_wp2
     go_meet
     case rel => exact ⟨_, (decide (a0_0 ≤ 5)), (by first | rfl | (simp; done) | (simp [*]; done)), H', ⟨by first | omega | exact Nat.le_refl _⟩, ⟨by apply_rules (transparency := .reducible) only [blk_drewN, blk_drew, blk_alloc, BK334.out]⟩, ⟨by apply_rules (transparency := .reducible) only [HB.out, below_alloc, pw_below_drewN, below_drew1, below_set, GE334.out]⟩⟩
    ·
     rw [if_neg c15] at H
     have c15b0 : decide (3 ≤ a0_0) = false := decide_eq_false c15
     clear c15
     (first | (generalize hb_ : decide (3 ≤ a0_0) = bb_ at *; subst c15b0; have c15b0 := hb_; clear hb_) | rw [c15b0] | (simp only [i64_w, i32_w]; rw [c15b0]) | skip)
     have H' := Aside0.mk H
     clear H
     obtain ⟨hcz17_0, hcz17_1, hcz17_2, hcz17_3, hcz17_4⟩ := blkc60_5 BK334.out
     obtain ⟨hfz17_0, hfz17_1, hfz17_2, hfz17_3, hfz17_4⟩ := blkf60_5 BK334.out
     go_wp2
     go_meet
     case rel => exact ⟨_, (false), (by first | rfl | (simp; done) | (simp [*]; done)), H', ⟨by first | omega | exact Nat.le_refl _⟩, ⟨by apply_rules (transparency := .reducible) only [blk_drewN, blk_drew, blk_alloc, BK334.out]⟩, ⟨by apply_rules (transparency := .reducible) only [HB.out, below_alloc, pw_below_drewN, below_drew1, below_set, GE334.out]⟩⟩
   case rest =>
    clear HC12
    (try clear c1); (try clear c2); (try clear p2); (try clear c4); (try clear c4b0); (try clear c4b1); (try clear p6); (try clear c8); (try clear c8b0); (try clear c8b1); (try clear c15); (try clear c15b0); (try clear hcz11_0); (try clear hcz11_1); (try clear hcz11_2); (try clear hcz11_3); (try clear hcz11_4); (try clear hcz14_0); (try clear hcz14_1); (try clear hcz14_2); (try clear hcz14_3); (try clear hcz14_4); (try clear hcz16_0); (try clear hcz16_1); (try clear hcz16_2); (try clear hcz16_3); (try clear hcz16_4); (try clear hcz17_0); (try clear hcz17_1); (try clear hcz17_2); (try clear hcz17_3); (try clear hcz17_4); (try clear hcz7_0); (try clear hcz7_1); (try clear hcz7_2); (try clear hcz7_3); (try clear hcz7_4); (try clear hfz11_0); (try clear hfz11_1); (try clear hfz11_2); (try clear hfz11_3); (try clear hfz11_4); (try clear hfz14_0); (try clear hfz14_1); (try clear hfz14_2); (try clear hfz14_3); (try clear hfz14_4); (try clear hfz16_0); (try clear hfz16_1); (try clear hfz16_2); (try clear hfz16_3); (try clear hfz16_4); (try clear hfz17_0); (try clear hfz17_1); (try clear hfz17_2); (try clear hfz17_3); (try clear hfz17_4); (try clear hfz7_0); (try clear hfz7_1); (try clear hfz7_2); (try clear hfz7_3); (try clear hfz7_4)
    obtain ⟨kq, x34_11, rfl, HA, HJ11, BK334, HB⟩ := hcut
    cases kq with
    | zero => exact absurd HA.out (by simp [spliceref04_Do.j0])
    | succ kj11 =>
     have H := HA.out
     clear HA
     simp only [spliceref04_Do.j0] at H
     by_cases c18 : x34_11 = true
     ·
      subst c18
      rw [if_pos rfl] at H
      replace H := Option.bind_eq_some_iff.mp H
      obtain ⟨t337, A190, H⟩ := H
      replace H : (some t337) = some r := H
      have A19 := Aside0.mk A190
      clear A190
      obtain rfl := Option.some.inj H
      obtain ⟨hcz20_0, hcz20_1, hcz20_2, hcz20_3, hcz20_4⟩ := blkc60_5 BK334.out
      obtain ⟨hfz20_0, hfz20_1, hfz20_2, hfz20_3, hfz20_4⟩ := blkf60_5 BK334.out
      go_wp2_with (first | ((with_reducible refine gate_callee (f := 43) rfl ?_); refine goesL_ (some 40) rfl rfl Try.func43 (by kernel_rfl) rfl #[.int .u32 a1, .int .u32 a2, .int .i64 (wrap64 (a0_0 - 3))] rfl (by (try simp only [List.map_toArray, List.map_cons, List.map_nil]); first | done | rfl | (simp only [List.length_drop, List.length_take]; rfl)) ?_; (with_reducible refine (spliceref04_bitwise.calls kj11 a1 a2 (wrap64 (a0_0 - 3)) t337 _ A19.out).mono ?_); rintro e w' ⟨rfl, ⟨nd, rfl⟩⟩; refine ⟨_, rfl, ?_⟩))
      go_ret
      exact ⟨by first | rfl | (simp [errW_none, errW_some] <;> rfl) | (simp [*, errW_none, errW_some] <;> rfl), by apply_rules (transparency := .reducible) only [HB.out, below_alloc, pw_below_drewN, below_drew1, below_set, GE334.out]⟩
     ·
      replace c18 := Bool.eq_false_iff.mpr c18
      subst c18
      rw [if_neg Bool.false_ne_true] at H
      have HC21 := Aside0.mk H
      clear H
      go_upto_region 9 with (fail)
      go_cut [50] (fun v50 wc => ∃ (kq : Nat) (x50_20 : Bool), v50 = .bool x50_20 ∧ Aside0 (spliceref04_Do.j1 kq a1 (wrap64 (a1)) (wrap64 (a2)) x50_20 a0_0 a0_1 a0_2 a0_3 a0_4 = some r) ∧ Aside0 (kq ≤ kj11) ∧ Aside0 (wc.heap[gb334]? = some (.cells #[.int .i64 a0_0, .int .i64 a0_1, .int .i64 a0_2, .int .i64 a0_3, .int .i64 a0_4] 55 (0, 0))) ∧ Aside0 (Below w.heap.size w wc))
      case first =>
       have H := HC21.out
       clear HC21
       by_cases c22 : a0_0 = 6
       ·
        rw [if_pos c22] at H
        have c22b0 : (a0_0 == 6) = true := beq_iff_eq.mpr c22
        have c22b1 : (a0_0 != 6) = false := bne_eq_false_iff_eq.mpr c22
        clear c22
        (first | (generalize hb_ : (a0_0 == 6) = bb_ at *; subst c22b0; have c22b0 := hb_; clear hb_) | rw [c22b0] | (simp only [i64_w, i32_w]; rw [c22b0]) | skip)
        replace H := Option.bind_eq_some_iff.mp H
        obtain ⟨t338, A230, H⟩ := H
        try dsimp only at H
        have A23 := Aside0.mk A230
        clear A230
        replace H := Option.bind_eq_some_iff.mp H
        obtain ⟨t339, A240, H⟩ := H
        try dsimp only at H
        have A24 := Aside0.mk A240
        clear A240
        have H' := Aside0.mk H
        clear H
        obtain ⟨hcz25_0, hcz25_1, hcz25_2, hcz25_3, hcz25_4⟩ := blkc60_5 BK334.out
        obtain ⟨hfz25_0, hfz25_1, hfz25_2, hfz25_3, hfz25_4⟩ := blkf60_5 BK334.out
        go_wp2_with (first | (go_at_call 34; (with_reducible refine (spliceref01_Sign.calls kj11 a1 32 t338 _ A23.out).mono ?_); rintro e w' ⟨rfl, ⟨nd, rfl⟩⟩) | (go_at_call 34; (with_reducible refine (spliceref01_Sign.calls kj11 a2 32 t339 _ A24.out).mono ?_); rintro e w' ⟨rfl, ⟨nd, rfl⟩⟩))
        go_meet
        case rel => exact ⟨_, (decide (t338 < t339)), (by first | rfl | (simp; done) | (simp [*]; done)), H', ⟨by have := HJ11.out; first | omega | exact Nat.le_refl _⟩, ⟨by apply_rules (transparency := .reducible) only [blk_drewN, blk_drew, blk_alloc, BK334.out]⟩, ⟨by apply_rules (transparency := .reducible) only [HB.out, below_alloc, pw_below_drewN, below_drew1, below_set, GE334.out]⟩⟩
       ·
        rw [if_neg c22] at H
        have c22b0 : (a0_0 == 6) = false := beq_eq_false_iff_ne.mpr c22
        have c22b1 : (a0_0 != 6) = true := bne_iff_ne.mpr c22
        (first | (generalize hb_ : (a0_0 == 6) = bb_ at *; subst c22b0; have c22b0 := hb_; clear hb_) | rw [c22b0] | (simp only [i64_w, i32_w]; rw [c22b0]) | skip)
        have H' := Aside0.mk H
        clear H
        obtain ⟨hcz26_0, hcz26_1, hcz26_2, hcz26_3, hcz26_4⟩ := blkc60_5 BK334.out
        obtain ⟨hfz26_0, hfz26_1, hfz26_2, hfz26_3, hfz26_4⟩ := blkf60_5 BK334.out
        go_wp2
        go_meet
        case rel => exact ⟨_, (false), (by first | rfl | (simp; done) | (simp [*]; done)), H', ⟨by have := HJ11.out; first | omega | exact Nat.le_refl _⟩, ⟨by apply_rules (transparency := .reducible) only [blk_drewN, blk_drew, blk_alloc, BK334.out]⟩, ⟨by apply_rules (transparency := .reducible) only [HB.out, below_alloc, pw_below_drewN, below_drew1, below_set, GE334.out]⟩⟩
      case rest =>
       clear HC21
       (try clear c1); (try clear c2); (try clear p2); (try clear c4); (try clear c4b0); (try clear c4b1); (try clear p6); (try clear c8); (try clear c8b0); (try clear c8b1); (try clear c15); (try clear c15b0); (try clear c18); (try clear c22); (try clear c22b0); (try clear c22b1); (try clear hcz11_0); (try clear hcz11_1); (try clear hcz11_2); (try clear hcz11_3); (try clear hcz11_4); (try clear hcz14_0); (try clear hcz14_1); (try clear hcz14_2); (try clear hcz14_3); (try clear hcz14_4); (try clear hcz16_0); (try clear hcz16_1); (try clear hcz16_2); (try clear hcz16_3); (try clear hcz16_4); (try clear hcz17_0); (try clear hcz17_1); (try clear hcz17_2); (try clear hcz17_3); (try clear hcz17_4); (try clear hcz20_0); (try clear hcz20_1); (try clear hcz20_2); (try clear hcz20_3); (try clear hcz20_4); (try clear hcz25_0); (try clear hcz25_1); (try clear hcz25_2); (try clear hcz25_3); (try clear hcz25_4); (try clear hcz26_0); (try clear hcz26_1); (try clear hcz26_2); (try clear hcz26_3); (try clear hcz26_4); (try clear hcz7_0); (try clear hcz7_1); (try clear hcz7_2); (try clear hcz7_3); (try clear hcz7_4); (try clear hfz11_0); (try clear hfz11_1); (try clear hfz11_2); (try clear hfz11_3); (try clear hfz11_4); (try clear hfz14_0); (try clear hfz14_1); (try clear hfz14_2); (try clear hfz14_3); (try clear hfz14_4); (try clear hfz16_0); (try clear hfz16_1); (try clear hfz16_2); (try clear hfz16_3); (try clear hfz16_4); (try clear hfz17_0); (try clear hfz17_1); (try clear hfz17_2); (try clear hfz17_3); (try clear hfz17_4); (try clear hfz20_0); (try clear hfz20_1); (try clear hfz20_2); (try clear hfz20_3); (try clear hfz20_4); (try clear hfz25_0); (try clear hfz25_1); (try clear hfz25_2); (try clear hfz25_3); (try clear hfz25_4); (try clear hfz26_0); (try clear hfz26_1); (try clear hfz26_2); (try clear hfz26_3); (try clear hfz26_4); (try clear hfz7_0); (try clear hfz7_1); (try clear hfz7_2); (try clear hfz7_3); (try clear hfz7_4); (try clear p2); (try clear p6)
       obtain ⟨kq, x50_20, rfl, HA, HJ20, BK334, HB⟩ := hcut
       cases kq with
       | zero => exact absurd HA.out (by simp [spliceref04_Do.j1])
       | succ kj20 =>
        have H := HA.out
        clear HA
        simp only [spliceref04_Do.j1] at H
        by_cases c27 : x50_20 = true
        ·
         subst c27
         have H1 : (some 1) = some r := by rw [if_pos rfl] at H; exact H
         clear H
         have H := H1
         clear H1
         obtain rfl := Option.some.inj H
         go_wp2
         go_ret
         exact ⟨by first | rfl | (simp [errW_none, errW_some] <;> rfl) | (simp [*, errW_none, errW_some] <;> rfl), by apply_rules (transparency := .reducible) only [HB.out, below_alloc, pw_below_drewN, below_drew1, below_set, GE334.out]⟩
        ·
         replace c27 := Bool.eq_false_iff.mpr c27
         subst c27
         rw [if_neg Bool.false_ne_true] at H
         by_cases c28 : a0_0 = 7
         ·
          rw [if_pos c28] at H
          have c28b0 : (a0_0 == 7) = true := beq_iff_eq.mpr c28
          have c28b1 : (a0_0 != 7) = false := bne_eq_false_iff_eq.mpr c28
          clear c28
          replace H := Option.bind_eq_some_iff.mp H
          obtain ⟨t340, A290, H⟩ := H
          replace H : (some t340) = some r := H
          have A29 := Aside0.mk A290
          clear A290
          obtain rfl := Option.some.inj H
          obtain ⟨hcz30_0, hcz30_1, hcz30_2, hcz30_3, hcz30_4⟩ := blkc60_5 BK334.out
          obtain ⟨hfz30_0, hfz30_1, hfz30_2, hfz30_3, hfz30_4⟩ := blkf60_5 BK334.out
          go_wp2_with (first | ((with_reducible refine gate_callee (f := 42) rfl ?_); refine goesL_ (some 65) rfl rfl Try.func42 (by kernel_rfl) rfl #[.int .i64 (wrap64 ((wrap64 ((Int.tmod (wrap64 (a1)) 65536) * (wrap64 (a2)))) + (wrap64 ((wrap64 ((wrap64 (Int.tdiv (wrap64 (a1)) 65536)) * (Int.tmod (wrap64 (a2)) 65536))) * 65536))))] rfl (by (try simp only [List.map_toArray, List.map_cons, List.map_nil]); first | done | rfl | (simp only [List.length_drop, List.length_take]; rfl)) ?_; (with_reducible refine (spliceref04_word.calls (wrap64 ((wrap64 ((Int.tmod (wrap64 (a1)) 65536) * (wrap64 (a2)))) + (wrap64 ((wrap64 ((wrap64 (Int.tdiv (wrap64 (a1)) 65536)) * (Int.tmod (wrap64 (a2)) 65536))) * 65536)))) t340 _ A29.out).mono ?_); rintro e w' ⟨rfl, ⟨nd, rfl⟩⟩; refine ⟨_, rfl, ?_⟩))
          go_ret
          exact ⟨by first | rfl | (simp [errW_none, errW_some] <;> rfl) | (simp [*, errW_none, errW_some] <;> rfl), by apply_rules (transparency := .reducible) only [HB.out, below_alloc, pw_below_drewN, below_drew1, below_set, GE334.out]⟩
         ·
          rw [if_neg c28] at H
          have c28b0 : (a0_0 == 7) = false := beq_eq_false_iff_ne.mpr c28
          have c28b1 : (a0_0 != 7) = true := bne_iff_ne.mpr c28
          by_cases c31 : a0_0 = 8
          ·
           rw [if_pos c31] at H
           have c31b0 : (a0_0 == 8) = true := beq_iff_eq.mpr c31
           have c31b1 : (a0_0 != 8) = false := bne_eq_false_iff_eq.mpr c31
           clear c31
           replace H := Option.bind_eq_some_iff.mp H
           obtain ⟨t341, A320, H⟩ := H
           replace H : (some t341) = some r := H
           have A32 := Aside0.mk A320
           clear A320
           obtain rfl := Option.some.inj H
           obtain ⟨hcz33_0, hcz33_1, hcz33_2, hcz33_3, hcz33_4⟩ := blkc60_5 BK334.out
           obtain ⟨hfz33_0, hfz33_1, hfz33_2, hfz33_3, hfz33_4⟩ := blkf60_5 BK334.out
           go_wp2_with (first | ((with_reducible refine gate_callee (f := 42) rfl ?_); refine goesL_ (some 73) rfl rfl Try.func42 (by kernel_rfl) rfl #[.int .i64 (wrap64 ((wrap64 (a1)) + a0_4))] rfl (by (try simp only [List.map_toArray, List.map_cons, List.map_nil]); first | done | rfl | (simp only [List.length_drop, List.length_take]; rfl)) ?_; (with_reducible refine (spliceref04_word.calls (wrap64 ((wrap64 (a1)) + a0_4)) t341 _ A32.out).mono ?_); rintro e w' ⟨rfl, ⟨nd, rfl⟩⟩; refine ⟨_, rfl, ?_⟩))
           go_ret
           exact ⟨by first | rfl | (simp [errW_none, errW_some] <;> rfl) | (simp [*, errW_none, errW_some] <;> rfl), by apply_rules (transparency := .reducible) only [HB.out, below_alloc, pw_below_drewN, below_drew1, below_set, GE334.out]⟩
          ·
           rw [if_neg c31] at H
           have c31b0 : (a0_0 == 8) = false := beq_eq_false_iff_ne.mpr c31
           have c31b1 : (a0_0 != 8) = true := bne_iff_ne.mpr c31
           by_cases c34 : a0_0 = 9
           ·
            rw [if_pos c34] at H
            have c34b0 : (a0_0 == 9) = true := beq_iff_eq.mpr c34
            have c34b1 : (a0_0 != 9) = false := bne_eq_false_iff_eq.mpr c34
            clear c34
            replace H := Option.bind_eq_some_iff.mp H
            obtain ⟨t342, A350, H⟩ := H
            replace H : (some t342) = some r := H
            have A35 := Aside0.mk A350
            clear A350
            obtain rfl := Option.some.inj H
            obtain ⟨hcz36_0, hcz36_1, hcz36_2, hcz36_3, hcz36_4⟩ := blkc60_5 BK334.out
            obtain ⟨hfz36_0, hfz36_1, hfz36_2, hfz36_3, hfz36_4⟩ := blkf60_5 BK334.out
            go_wp2_with (first | ((with_reducible refine gate_callee (f := 42) rfl ?_); refine goesL_ (some 80) rfl rfl Try.func42 (by kernel_rfl) rfl #[.int .i64 (wrap64 (a0_4 * 65536))] rfl (by (try simp only [List.map_toArray, List.map_cons, List.map_nil]); first | done | rfl | (simp only [List.length_drop, List.length_take]; rfl)) ?_; (with_reducible refine (spliceref04_word.calls (wrap64 (a0_4 * 65536)) t342 _ A35.out).mono ?_); rintro e w' ⟨rfl, ⟨nd, rfl⟩⟩; refine ⟨_, rfl, ?_⟩))
            go_ret
            exact ⟨by first | rfl | (simp [errW_none, errW_some] <;> rfl) | (simp [*, errW_none, errW_some] <;> rfl), by apply_rules (transparency := .reducible) only [HB.out, below_alloc, pw_below_drewN, below_drew1, below_set, GE334.out]⟩
           ·
            rw [if_neg c34] at H
            have c34b0 : (a0_0 == 9) = false := beq_eq_false_iff_ne.mpr c34
            have c34b1 : (a0_0 != 9) = true := bne_iff_ne.mpr c34
            by_cases c37 : a0_0 = 10
            ·
             rw [if_pos c37] at H
             have c37b0 : (a0_0 == 10) = true := beq_iff_eq.mpr c37
             have c37b1 : (a0_0 != 10) = false := bne_eq_false_iff_eq.mpr c37
             clear c37
             replace H := Option.bind_eq_some_iff.mp H
             obtain ⟨t343, A380, H⟩ := H
             replace H : (some t343) = some r := H
             have A38 := Aside0.mk A380
             clear A380
             obtain rfl := Option.some.inj H
             obtain ⟨hcz39_0, hcz39_1, hcz39_2, hcz39_3, hcz39_4⟩ := blkc60_5 BK334.out
             obtain ⟨hfz39_0, hfz39_1, hfz39_2, hfz39_3, hfz39_4⟩ := blkf60_5 BK334.out
             go_wp2_with (first | ((with_reducible refine gate_callee (f := 43) rfl ?_); refine goesL_ (some 88) rfl rfl Try.func43 (by kernel_rfl) rfl #[.int .u32 a1, .int .u32 ((a0_4) % 4294967296), .int .i64 1] rfl (by (try simp only [List.map_toArray, List.map_cons, List.map_nil]); first | done | rfl | (simp only [List.length_drop, List.length_take]; rfl)) ?_; (with_reducible refine (spliceref04_bitwise.calls kj20 a1 ((a0_4) % 4294967296) 1 t343 _ A38.out).mono ?_); rintro e w' ⟨rfl, ⟨nd, rfl⟩⟩; refine ⟨_, rfl, ?_⟩))
             go_ret
             exact ⟨by first | rfl | (simp [errW_none, errW_some] <;> rfl) | (simp [*, errW_none, errW_some] <;> rfl), by apply_rules (transparency := .reducible) only [HB.out, below_alloc, pw_below_drewN, below_drew1, below_set, GE334.out]⟩
            ·
             rw [if_neg c37] at H
             have c37b0 : (a0_0 == 10) = false := beq_eq_false_iff_ne.mpr c37
             have c37b1 : (a0_0 != 10) = true := bne_iff_ne.mpr c37
             obtain rfl := Option.some.inj H
             obtain ⟨hcz40_0, hcz40_1, hcz40_2, hcz40_3, hcz40_4⟩ := blkc60_5 BK334.out
             obtain ⟨hfz40_0, hfz40_1, hfz40_2, hfz40_3, hfz40_4⟩ := blkf60_5 BK334.out
             go_wp2
             go_ret
             exact ⟨by first | rfl | (simp [errW_none, errW_some] <;> rfl) | (simp [*, errW_none, errW_some] <;> rfl), by apply_rules (transparency := .reducible) only [HB.out, below_alloc, pw_below_drewN, below_drew1, below_set, GE334.out]⟩

end Go.Proofs.Ytcagccodmmcnfaa.Q
