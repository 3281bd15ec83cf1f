-- Written by drv.py, a program of this session, over the kit's print, out of the translation. Not trusted: Lean checks it.
import Derived.Test.YtdnfofhfllnhiaaQLK
import Derived.Test.YtdnfofhfllnhiaaQD0
import Derived.Test.YtdnfofhfllnhiaaQ19
import Derived.Test.YtdnfofhfllnhiaaQ23
import Derived.Test.YtdnfofhfllnhiaaQ36
import Derived.Test.YtdnfofhfllnhiaaQB
import Derived.Test.YtdnfofhfllnhiaaQP
import Derived.Test.YtdnfofhfllnhiaaHpd
namespace Go.Proofs.Ytdnfofhfllnhiaa.Q
open Go.RowKit Go.Proofs.YtdnfofhfllnhiaaW.PrintWords Go.Proofs.YtdnfofhfllnhiaaW.PrintLast Go.Proofs.YtdnfofhfllnhiaaW.PrintMore
attribute [local go_sem] max2_int min2_int max_two min_two max_three min_three max_four min_four   -- for this text's walks alone
set_option linter.unusedVariables false
set_option linter.unusedSimpArgs false

theorem blkc50_3 {w : World} {g : Nat} {t : TypeId} {v0 v1 v2 : Value} (h : w.heap[g]? = some (.cells #[v0, v1, v2] t (0, 0))) : w.cell? ⟨g, 0, none⟩ = some v0 ∧ w.cell? ⟨g, 1, none⟩ = some v1 ∧ w.cell? ⟨g, 2, none⟩ = some v2 := ⟨(blk_cell h 0).trans rfl, (blk_cell h 1).trans rfl, (blk_cell h 2).trans rfl⟩
theorem blkc50_5 {w : World} {g : Nat} {t : TypeId} {v0 v1 v2 v3 v4 : Value} (h : w.heap[g]? = some (.cells #[v0, v1, v2, v3, v4] t (0, 0))) : w.cell? ⟨g, 0, none⟩ = some v0 ∧ w.cell? ⟨g, 1, none⟩ = some v1 ∧ w.cell? ⟨g, 2, none⟩ = some v2 ∧ w.cell? ⟨g, 3, none⟩ = some v3 ∧ w.cell? ⟨g, 4, none⟩ = some v4 := ⟨(blk_cell h 0).trans rfl, (blk_cell h 1).trans rfl, (blk_cell h 2).trans rfl, (blk_cell h 3).trans rfl, (blk_cell h 4).trans rfl⟩
theorem blkf50_3 {w : World} {g : Nat} {t : TypeId} {cs : Array Value} (h : w.heap[g]? = some (.cells cs t (0, 0))) : w.frozen? ⟨g, 0, none⟩ = false ∧ w.frozen? ⟨g, 1, none⟩ = false ∧ w.frozen? ⟨g, 2, none⟩ = false := ⟨blk_frozen h 0, blk_frozen h 1, blk_frozen h 2⟩
theorem blkf50_5 {w : World} {g : Nat} {t : TypeId} {cs : Array Value} (h : w.heap[g]? = some (.cells cs t (0, 0))) : w.frozen? ⟨g, 0, none⟩ = false ∧ w.frozen? ⟨g, 1, none⟩ = false ∧ w.frozen? ⟨g, 2, none⟩ = false ∧ w.frozen? ⟨g, 3, none⟩ = false ∧ w.frozen? ⟨g, 4, none⟩ = false := ⟨blk_frozen h 0, blk_frozen h 1, blk_frozen h 2, blk_frozen h 3, blk_frozen h 4⟩
set_option maxHeartbeats 8000000 in
set_option maxRecDepth 100000 in
theorem splicelaw13_PatchKeeps.calls (k : Nat) (A0_0 : Option Addr) (c0_0 : Nat) (l0_0 : List (S44)) (A0_1 : Option Addr) (c0_1 : Nat) (l0_1 : List (S55)) (a0_2 : Int) (r : Bool) (w : World) (hr0_0 : Kd.C k44 w A0_0 l0_0.length l0_0) (hc0_0 : l0_0.length ≤ c0_0) (hr0_1 : Kd.C k55 w A0_1 l0_1.length l0_1) (hc0_1 : l0_1.length ≤ c0_1) (h : splicelaw13_PatchKeeps.f k l0_0 l0_1 a0_2 = some r) :
    Calls Try.prog 7 #[.agg #[.slice A0_0 l0_0.length c0_0, .slice A0_1 l0_1.length c0_1, .int .i64 a0_2]] w fun e w' => e = .returned (.bool r) ∧ Below w.heap.size w w' := by
 have hu25 := Try.underlying25
 have hu30 := Try.underlying30
 have HR0_0 := Aside0.mk hr0_0
 have HC0_0 := Aside0.mk hc0_0
 clear hr0_0 hc0_0
 have HR0_1 := Aside0.mk hr0_1
 have HC0_1 := Aside0.mk hc0_1
 clear hr0_1 hc0_1
 have HB := Aside0.mk (Below.refl w.heap.size w)
 have H : ((place_All.f k l0_0 l0_1 a0_2).bind fun t487 => ((splicelaw13_awake.f k).bind fun t490 => (if t490 = true then ((splicelaw13_fine.f k l0_0 l0_1 a0_2 t487).bind fun t491 => (splicelaw13_PatchKeeps.j0 k t487 (!t491) l0_0 l0_1 a0_2)) else (splicelaw13_PatchKeeps.j0 k t487 true l0_0 l0_1 a0_2)))) = some r := h
 clear h
 replace H := Option.bind_eq_some_iff.mp H
 obtain ⟨t487, A20, H⟩ := H
 try dsimp only at H
 have A2 := Aside0.mk A20
 clear A20
 have HC3 := Aside0.mk H
 clear H
 go_enter Try.func7, Try.ntmps7
 go_upto_region 2 with (first | ((with_reducible refine gate_dst (N := 1) rfl ?_); refine box_event ?hg (N := 1) ?hd (cs := #[.slice A0_0 l0_0.length c0_0, .slice A0_1 l0_1.length c0_1, .int .i64 a0_2]) (t := 25) ?hr ?_; (case hd => rfl); (case hg => rfl); (case hr => first | (go_simp; done) | (go_simp; rfl)); intro gb486 hg w4 hbox hb; have n0_ := Aside0.mk (below_step (by apply_rules (transparency := .reducible) only [HB.out, below_alloc, pw_below_drewN, below_drew1]) hb); have n1_ := Aside0.mk (hbox); have n2_ := Aside0.mk ((by rw [hg]; exact (below_size (by apply_rules (transparency := .reducible) only [HB.out, below_alloc, pw_below_drewN, below_drew1])) : w.heap.size ≤ gb486)); have n3_ := Aside0.mk ((by rw [hg]; exact (below_size (by apply_rules (transparency := .reducible) only [HB.out, below_alloc, pw_below_drewN, below_drew1])) : w.heap.size ≤ gb486)); clear HB; have HB := n0_; have BK486 := n1_; have GW486 := n2_; have GE486 := n3_; clear n0_ n1_ n2_ n3_; clear hb hbox hg; obtain ⟨hcz5_0, hcz5_1, hcz5_2⟩ := blkc50_3 BK486.out; obtain ⟨hfz5_0, hfz5_1, hfz5_2⟩ := blkf50_3 BK486.out) | ((with_reducible refine gate_callee (f := 18) rfl ?_); refine goesL_ (some 17) rfl rfl Try.func18 (by kernel_rfl) rfl #[.agg #[.slice A0_0 l0_0.length c0_0, .slice A0_1 l0_1.length c0_1, .int .i64 a0_2]] rfl (by (try simp only [List.map_toArray, List.map_cons, List.map_nil]); first | done | rfl | (simp only [List.length_drop, List.length_take]; rfl)) ?_; (with_reducible refine (place_All.calls k _ _ l0_0 _ _ l0_1 a0_2 t487 _ ?side1 ?side2 ?side3 ?side4 A2.out).mono ?_); (case side1 => repeat (first | exact (Kd.C_below HR0_0.out HB.out) | (with_reducible refine Kd.C_alloc ?_ _) | (with_reducible refine Kd.C_drewN ?_ _) | (with_reducible refine Kd.C_drew ?_))); (case side2 => exact HC0_0.out); (case side3 => repeat (first | exact (Kd.C_below HR0_1.out HB.out) | (with_reducible refine Kd.C_alloc ?_ _) | (with_reducible refine Kd.C_drewN ?_ _) | (with_reducible refine Kd.C_drew ?_))); (case side4 => exact HC0_1.out); rintro e w6 ⟨v488, rfl, ho0, hb⟩; refine ⟨_, rfl, ?_⟩; have n0_ := Aside0.mk (Kd.R_lower ho0 (below_size (by apply_rules (transparency := .reducible) only [HB.out, below_alloc, pw_below_drewN, below_drew1, below_set, GE486.out]))); have n1_ := Aside0.mk (blk_below (g := gb486) (o := .cells #[.slice A0_0 l0_0.length c0_0, .slice A0_1 l0_1.length c0_1, .int .i64 a0_2] 25 (0, 0)) (by apply_rules (transparency := .reducible) only [blk_drewN, blk_drew, blk_alloc, BK486.out]) hb); have n2_ := Aside0.mk (below_step (by apply_rules (transparency := .reducible) only [HB.out, below_alloc, pw_below_drewN, below_drew1, below_set, GE486.out]) hb); clear BK486; clear HB; have HO489 := n0_; have BK486 := n1_; have HB := n2_; clear n0_ n1_ n2_; (try clear hb); (try clear hb2); (try clear hk); (try clear hi); (try clear ho0)))
 (try simp only [Act.put, List.setIfInBounds_toArray, List.set_cons_zero, List.set_cons_succ])
 go_cut [25] (fun v25 wc => ∃ (kq : Nat) (x25_2 : Bool), v25 = .bool x25_2 ∧ Aside0 (splicelaw13_PatchKeeps.j0 kq t487 x25_2 l0_0 l0_1 a0_2 = some r) ∧ Aside0 (kq ≤ k) ∧ Aside0 (Kd.R (Kd.int .i64) 3 wc w.heap.size (fun _ => True) v488 t487) ∧ Aside0 (wc.heap[gb486]? = some (.cells #[(.slice A0_0 l0_0.length c0_0), (.slice A0_1 l0_1.length c0_1), .int .i64 a0_2] 25 (0, 0))) ∧ Aside0 (Below w.heap.size w wc))
 case first =>
  have H := HC3.out
  clear HC3
  replace H := Option.bind_eq_some_iff.mp H
  obtain ⟨t490, A70, H⟩ := H
  try dsimp only at H
  have A7 := Aside0.mk A70
  clear A70
  by_cases c8 : t490 = true
  ·
   subst c8
   rw [if_pos rfl] at H
   replace H := Option.bind_eq_some_iff.mp H
   obtain ⟨t491, A90, H⟩ := H
   try dsimp only at H
   have A9 := Aside0.mk A90
   clear A90
   have H' := Aside0.mk H
   clear H
   go_wp2_with (first | ((with_reducible refine gate_callee (f := 8) rfl ?_); refine goesL_ (some 18) rfl rfl Try.func8 (by kernel_rfl) rfl #[] rfl (by (try simp only [List.map_toArray, List.map_cons, List.map_nil]); first | done | rfl | (simp only [List.length_drop, List.length_take]; rfl)) ?_; (with_reducible refine (splicelaw13_awake.calls k  true _ A7.out).mono ?_); rintro e w10 ⟨rfl, hb⟩; refine ⟨_, rfl, ?_⟩; have n0_ := Aside0.mk (Kd.R_below (by (with_reducible repeat (first | apply Kd.R_alloc | apply Kd.R_drewN | apply Kd.R_drew)); exact HO489.out) hb); have n1_ := Aside0.mk (blk_below (g := gb486) (o := .cells #[.slice A0_0 l0_0.length c0_0, .slice A0_1 l0_1.length c0_1, .int .i64 a0_2] 25 (0, 0)) (by apply_rules (transparency := .reducible) only [blk_drewN, blk_drew, blk_alloc, BK486.out]) hb); have n2_ := Aside0.mk (below_step (by apply_rules (transparency := .reducible) only [HB.out, below_alloc, pw_below_drewN, below_drew1, below_set, GE486.out]) hb); clear HO489; clear BK486; clear HB; have HO489 := n0_; have BK486 := n1_; have HB := n2_; clear n0_ n1_ n2_; (try clear hb); (try clear hb2); (try clear hk); (try clear hi); obtain ⟨hcz11_0, hcz11_1, hcz11_2⟩ := blkc50_3 BK486.out; obtain ⟨hfz11_0, hfz11_1, hfz11_2⟩ := blkf50_3 BK486.out; obtain ⟨Ao12, co12, eo12⟩ := Kd.R_slice HO489.out; subst eo12) | (go_at_call 9; (with_reducible refine (splicelaw13_fine.calls k _ _ l0_0 _ _ l0_1 a0_2 _ _ t487 t491 _ ?side1 ?side2 ?side3 ?side4 ?side5 ?side6 A9.out).mono ?_); (case side1 => repeat (first | exact (Kd.C_below HR0_0.out HB.out) | (with_reducible refine Kd.C_alloc ?_ _) | (with_reducible refine Kd.C_drewN ?_ _) | (with_reducible refine Kd.C_drew ?_))); (case side2 => exact HC0_0.out); (case side3 => repeat (first | exact (Kd.C_below HR0_1.out HB.out) | (with_reducible refine Kd.C_alloc ?_ _) | (with_reducible refine Kd.C_drewN ?_ _) | (with_reducible refine Kd.C_drew ?_))); (case side4 => exact HC0_1.out); (case side5 => repeat (first | exact (Kd.R_reads' HO489.out).2.2 | (with_reducible refine Kd.C_alloc ?_ _) | (with_reducible refine Kd.C_drewN ?_ _) | (with_reducible refine Kd.C_drew ?_))); (case side6 => exact (Kd.R_reads' HO489.out).2.1); rintro e w13 ⟨rfl, hb⟩; have n0_ := Aside0.mk (Kd.R_below (by (with_reducible repeat (first | apply Kd.R_alloc | apply Kd.R_drewN | apply Kd.R_drew)); exact HO489.out) hb); have n1_ := Aside0.mk (blk_below (g := gb486) (o := .cells #[.slice A0_0 l0_0.length c0_0, .slice A0_1 l0_1.length c0_1, .int .i64 a0_2] 25 (0, 0)) (by apply_rules (transparency := .reducible) only [blk_drewN, blk_drew, blk_alloc, BK486.out]) hb); have n2_ := Aside0.mk (below_step (by apply_rules (transparency := .reducible) only [HB.out, below_alloc, pw_below_drewN, below_drew1, below_set, GE486.out]) hb); clear HO489; clear BK486; clear HB; have HO489 := n0_; have BK486 := n1_; have HB := n2_; clear n0_ n1_ n2_; (try clear hb); (try clear hb2); (try clear hk); (try clear hi)))
   go_meet
   case rel => exact ⟨_, (!t491), (by first | rfl | (simp; done) | (simp [*]; done)), H', ⟨by first | omega | exact Nat.le_refl _⟩, ⟨by (with_reducible repeat (first | apply Kd.R_alloc | apply Kd.R_drewN | apply Kd.R_drew)); exact HO489.out⟩, ⟨by apply_rules (transparency := .reducible) only [blk_drewN, blk_drew, blk_alloc, BK486.out]⟩, ⟨by apply_rules (transparency := .reducible) only [HB.out, below_alloc, pw_below_drewN, below_drew1, below_set, GE486.out]⟩⟩
  ·
   replace c8 := Bool.eq_false_iff.mpr c8
   subst c8
   rw [if_neg Bool.false_ne_true] at H
   have H' := Aside0.mk H
   clear H
   go_wp2_with (first | ((with_reducible refine gate_callee (f := 8) rfl ?_); refine goesL_ (some 18) rfl rfl Try.func8 (by kernel_rfl) rfl #[] rfl (by (try simp only [List.map_toArray, List.map_cons, List.map_nil]); first | done | rfl | (simp only [List.length_drop, List.length_take]; rfl)) ?_; (with_reducible refine (splicelaw13_awake.calls k  false _ A7.out).mono ?_); rintro e w14 ⟨rfl, hb⟩; refine ⟨_, rfl, ?_⟩; have n0_ := Aside0.mk (Kd.R_below (by (with_reducible repeat (first | apply Kd.R_alloc | apply Kd.R_drewN | apply Kd.R_drew)); exact HO489.out) hb); have n1_ := Aside0.mk (blk_below (g := gb486) (o := .cells #[.slice A0_0 l0_0.length c0_0, .slice A0_1 l0_1.length c0_1, .int .i64 a0_2] 25 (0, 0)) (by apply_rules (transparency := .reducible) only [blk_drewN, blk_drew, blk_alloc, BK486.out]) hb); have n2_ := Aside0.mk (below_step (by apply_rules (transparency := .reducible) only [HB.out, below_alloc, pw_below_drewN, below_drew1, below_set, GE486.out]) hb); clear HO489; clear BK486; clear HB; have HO489 := n0_; have BK486 := n1_; have HB := n2_; clear n0_ n1_ n2_; (try clear hb); (try clear hb2); (try clear hk); (try clear hi)))
   go_meet
   case rel => exact ⟨_, (true), (by first | rfl | (simp; done) | (simp [*]; done)), H', ⟨by first | omega | exact Nat.le_refl _⟩, ⟨by (with_reducible repeat (first | apply Kd.R_alloc | apply Kd.R_drewN | apply Kd.R_drew)); exact HO489.out⟩, ⟨by apply_rules (transparency := .reducible) only [blk_drewN, blk_drew, blk_alloc, BK486.out]⟩, ⟨by apply_rules (transparency := .reducible) only [HB.out, below_alloc, pw_below_drewN, below_drew1, below_set, GE486.out]⟩⟩
 case rest =>
  clear HC3
  (try clear c1); (try clear p2); (try clear c7); (try clear c8); (try clear hcz11_0); (try clear hcz11_1); (try clear hcz11_2); (try clear hcz5_0); (try clear hcz5_1); (try clear hcz5_2); (try clear hfz11_0); (try clear hfz11_1); (try clear hfz11_2); (try clear hfz5_0); (try clear hfz5_1); (try clear hfz5_2)
  obtain ⟨kq, x25_2, rfl, HA, HJ2, HO_3, BK486, HB⟩ := hcut
  cases kq with
  | zero => exact absurd HA.out (by simp [splicelaw13_PatchKeeps.j0])
  | succ kj2 =>
   have H := HA.out
   clear HA
   simp only [splicelaw13_PatchKeeps.j0] at H
   by_cases c15 : x25_2 = true
   ·
    subst c15
    rw [if_pos rfl] at H
    replace H := Option.bind_eq_some_iff.mp H
    obtain ⟨t492, A160, H⟩ := H
    replace H : (some t492) = some r := H
    have A16 := Aside0.mk A160
    clear A160
    obtain rfl := Option.some.inj H
    go_wp2_with (first | ((with_reducible refine gate_callee (f := 8) rfl ?_); refine goesL_ (some 26) rfl rfl Try.func8 (by kernel_rfl) rfl #[] rfl (by (try simp only [List.map_toArray, List.map_cons, List.map_nil]); first | done | rfl | (simp only [List.length_drop, List.length_take]; rfl)) ?_; (with_reducible refine (splicelaw13_awake.calls kj2  t492 _ A16.out).mono ?_); rintro e w17 ⟨rfl, hb⟩; refine ⟨_, rfl, ?_⟩; have n0_ := Aside0.mk (Kd.R_below (by (with_reducible repeat (first | apply Kd.R_alloc | apply Kd.R_drewN | apply Kd.R_drew)); exact HO_3.out) hb); have n1_ := Aside0.mk (blk_below (g := gb486) (o := .cells #[.slice A0_0 l0_0.length c0_0, .slice A0_1 l0_1.length c0_1, .int .i64 a0_2] 25 (0, 0)) (by apply_rules (transparency := .reducible) only [blk_drewN, blk_drew, blk_alloc, BK486.out]) hb); have n2_ := Aside0.mk (below_step (by apply_rules (transparency := .reducible) only [HB.out, below_alloc, pw_below_drewN, below_drew1, below_set, GE486.out]) hb); clear HO_3; clear BK486; clear HB; have HO_3 := n0_; have BK486 := n1_; have HB := n2_; clear n0_ n1_ n2_; (try clear hb); (try clear hb2); (try clear hk); (try clear hi)))
    go_ret
    exact ⟨by first | rfl | (simp [errW_none, errW_some] <;> rfl) | (simp [*, errW_none, errW_some] <;> rfl), by apply_rules (transparency := .reducible) only [HB.out, below_alloc, pw_below_drewN, below_drew1, below_set, GE486.out]⟩
   ·
    replace c15 := Bool.eq_false_iff.mpr c15
    subst c15
    rw [if_neg Bool.false_ne_true] at H
    replace H := Option.bind_eq_some_iff.mp H
    obtain ⟨⟨t493, t496, t499, t500, t501, t502⟩, A180, H⟩ := H
    try dsimp only at H
    have A18 := Aside0.mk A180
    clear A180
    by_cases c19 : t502 = 0
    ·
     rw [if_pos c19] at H
     have c19b0 : (t502 == 0) = true := beq_iff_eq.mpr c19
     have c19b1 : (t502 != 0) = false := bne_eq_false_iff_eq.mpr c19
     clear c19
     have H' := Aside0.mk H
     clear H
     obtain ⟨hcz20_0, hcz20_1, hcz20_2⟩ := blkc50_3 BK486.out
     obtain ⟨hfz20_0, hfz20_1, hfz20_2⟩ := blkf50_3 BK486.out
     obtain ⟨Ao21, co21, eo21⟩ := Kd.R_slice HO_3.out
     subst eo21
     go_wp2_with (first | ((with_reducible refine gate_callee (f := 10) rfl ?_); refine goesL_ (some 30) rfl rfl Try.func10 (by kernel_rfl) rfl #[.agg #[.slice A0_0 l0_0.length c0_0, .slice A0_1 l0_1.length c0_1, .int .i64 a0_2], .slice Ao21 t487.length co21] rfl (by (try simp only [List.map_toArray, List.map_cons, List.map_nil]); first | done | rfl | (simp only [List.length_drop, List.length_take]; rfl)) ?_; (with_reducible refine (place_Plan.calls kj2 _ _ l0_0 _ _ l0_1 a0_2 _ _ t487 t493 t496 t499 t500 t501 t502 _ ?side1 ?side2 ?side3 ?side4 ?side5 ?side6 A18.out).mono ?_); (case side1 => repeat (first | exact (Kd.C_below HR0_0.out HB.out) | (with_reducible refine Kd.C_alloc ?_ _) | (with_reducible refine Kd.C_drewN ?_ _) | (with_reducible refine Kd.C_drew ?_))); (case side2 => exact HC0_0.out); (case side3 => repeat (first | exact (Kd.C_below HR0_1.out HB.out) | (with_reducible refine Kd.C_alloc ?_ _) | (with_reducible refine Kd.C_drewN ?_ _) | (with_reducible refine Kd.C_drew ?_))); (case side4 => exact HC0_1.out); (case side5 => repeat (first | exact (Kd.R_reads' HO_3.out).2.2 | (with_reducible refine Kd.C_alloc ?_ _) | (with_reducible refine Kd.C_drewN ?_ _) | (with_reducible refine Kd.C_drew ?_))); (case side6 => exact (Kd.R_reads' HO_3.out).2.1); rintro e w22 ⟨v494, v497, rfl, ho0, ho1, hb⟩; refine ⟨_, rfl, ?_⟩; have n0_ := Aside0.mk (Kd.R_mono (Kd.R_told (Kd.R_told (Kd.R_old (by (with_reducible repeat (first | apply Kd.R_alloc | apply Kd.R_drewN | apply Kd.R_drew)); exact HO_3.out) hb) (Kd.R_base ho0)) (Kd.R_base ho1)) (fun _ h_ => h_.1)); have n1_ := Aside0.mk (Kd.R_lower (Kd.R_new' ho0 (Kd.R_lt (by (with_reducible repeat (first | apply Kd.R_alloc | apply Kd.R_drewN | apply Kd.R_drew)); exact HO_3.out))) (below_size (by apply_rules (transparency := .reducible) only [HB.out, below_alloc, pw_below_drewN, below_drew1, below_set, GE486.out]))); have n2_ := Aside0.mk (Kd.R_lower (Kd.R_new' ho1 (Kd.R_lt (by (with_reducible repeat (first | apply Kd.R_alloc | apply Kd.R_drewN | apply Kd.R_drew)); exact HO_3.out))) (below_size (by apply_rules (transparency := .reducible) only [HB.out, below_alloc, pw_below_drewN, below_drew1, below_set, GE486.out]))); have n3_ := Aside0.mk (blk_below (g := gb486) (o := .cells #[.slice A0_0 l0_0.length c0_0, .slice A0_1 l0_1.length c0_1, .int .i64 a0_2] 25 (0, 0)) (by apply_rules (transparency := .reducible) only [blk_drewN, blk_drew, blk_alloc, BK486.out]) hb); have n4_ := Aside0.mk (below_step (by apply_rules (transparency := .reducible) only [HB.out, below_alloc, pw_below_drewN, below_drew1, below_set, GE486.out]) hb); clear HO_3; clear BK486; clear HB; have HO_3 := n0_; have HO495 := n1_; have HO498 := n2_; have BK486 := n3_; have HB := n4_; clear n0_ n1_ n2_ n3_ n4_; (try clear hb); (try clear hb2); (try clear hk); (try clear hi); (try clear ho0); (try clear ho1)) | ((with_reducible refine gate_dst (N := 4) rfl ?_); refine box_event ?hg (N := 4) ?hd (cs := #[.slice none 0 0, .slice none 0 0, .int .i64 0, .int .i64 0, .int .i64 0]) (t := 30) ?hr ?_; (case hd => rfl); (case hg => rfl); (case hr => first | (go_simp; done) | (go_simp; rfl)); intro gb503 hg w23 hbox hb; have n0_ := Aside0.mk (Kd.R_below (by (with_reducible repeat (first | apply Kd.R_alloc | apply Kd.R_drewN | apply Kd.R_drew)); exact HO_3.out) hb); have n1_ := Aside0.mk (Kd.R_below (by (with_reducible repeat (first | apply Kd.R_alloc | apply Kd.R_drewN | apply Kd.R_drew)); exact HO495.out) hb); have n2_ := Aside0.mk (Kd.R_below (by (with_reducible repeat (first | apply Kd.R_alloc | apply Kd.R_drewN | apply Kd.R_drew)); exact HO498.out) hb); have n3_ := Aside0.mk (blk_below (g := gb486) (o := .cells #[.slice A0_0 l0_0.length c0_0, .slice A0_1 l0_1.length c0_1, .int .i64 a0_2] 25 (0, 0)) (by apply_rules (transparency := .reducible) only [blk_drewN, blk_drew, blk_alloc, BK486.out]) hb); have n4_ := Aside0.mk (below_step (by apply_rules (transparency := .reducible) only [HB.out, below_alloc, pw_below_drewN, below_drew1, below_set, GE486.out]) hb); have n5_ := Aside0.mk (hbox); have n6_ := Aside0.mk ((by rw [hg]; exact (below_size (by apply_rules (transparency := .reducible) only [HB.out, below_alloc, pw_below_drewN, below_drew1, below_set, GE486.out])) : w.heap.size ≤ gb503)); have n7_ := Aside0.mk ((by rw [hg]; exact (below_size (by apply_rules (transparency := .reducible) only [HB.out, below_alloc, pw_below_drewN, below_drew1, below_set, GE486.out])) : w.heap.size ≤ gb503)); have n8_ := Aside0.mk ((by rw [hg]; exact Nat.ne_of_lt (blk_lt (g := gb486) (o := .cells #[.slice A0_0 l0_0.length c0_0, .slice A0_1 l0_1.length c0_1, .int .i64 a0_2] 25 (0, 0)) (by apply_rules (transparency := .reducible) only [blk_drewN, blk_drew, blk_alloc, BK486.out])) : gb486 ≠ gb503)); have n9_ := Aside0.mk ((by rw [hg]; exact Nat.ne_of_gt (blk_lt (g := gb486) (o := .cells #[.slice A0_0 l0_0.length c0_0, .slice A0_1 l0_1.length c0_1, .int .i64 a0_2] 25 (0, 0)) (by apply_rules (transparency := .reducible) only [blk_drewN, blk_drew, blk_alloc, BK486.out])) : gb503 ≠ gb486)); clear HO_3; clear HO495; clear HO498; clear BK486; clear HB; have HO_3 := n0_; have HO495 := n1_; have HO498 := n2_; have BK486 := n3_; have HB := n4_; have BK503 := n5_; have GW503 := n6_; have GE503 := n7_; have NB486_503 := n8_; have NB503_486 := n9_; clear n0_ n1_ n2_ n3_ n4_ n5_ n6_ n7_ n8_ n9_; clear hb hbox hg; obtain ⟨Ao24, co24, eo24⟩ := Kd.R_slice HO495.out; subst eo24; have hnb25 := NB503_486.out; have hnc25 := NB486_503.out; obtain ⟨hcz26_0, hcz26_1, hcz26_2, hcz26_3, hcz26_4⟩ := blkc50_5 BK503.out; obtain ⟨hfz26_0, hfz26_1, hfz26_2, hfz26_3, hfz26_4⟩ := blkf50_5 BK503.out; obtain ⟨Ao27, co27, eo27⟩ := Kd.R_slice HO498.out; subst eo27))
     go_loopg [6] kj2 (fun kq v6 w' => ∃ (x6_2 : Int), v6 = .int .i64 x6_2 ∧ Aside0 (splicelaw13_PatchKeeps.l0 kq t487 x6_2 l0_0 l0_1 a0_2 t493 t496 t499 t500 t501 = some r) ∧ Aside0 (kq ≤ kj2) ∧ Aside0 (Kd.R (Kd.int .i64) 3 w' w.heap.size (fun k_ => some k_ ≠ ((.slice Ao24 t493.length co24) : Value).ownBlock ∧ some k_ ≠ ((.slice Ao27 t496.length co27) : Value).ownBlock) (.slice Ao21 t487.length co21) t487) ∧ Aside0 (Kd.R (Kd.int .i64) 3 w' w.heap.size (fun k_ => some k_ ≠ ((.slice Ao21 t487.length co21) : Value).ownBlock ∧ some k_ ≠ ((.slice Ao27 t496.length co27) : Value).ownBlock) (.slice Ao24 t493.length co24) t493) ∧ Aside0 (Kd.R (Kd.int .i64) 3 w' w.heap.size (fun k_ => some k_ ≠ ((.slice Ao21 t487.length co21) : Value).ownBlock ∧ some k_ ≠ ((.slice Ao24 t493.length co24) : Value).ownBlock) (.slice Ao27 t496.length co27) t496) ∧ Aside0 (w'.heap[gb486]? = some (.cells #[(.slice A0_0 l0_0.length c0_0), (.slice A0_1 l0_1.length c0_1), .int .i64 a0_2] 25 (0, 0))) ∧ Aside0 (w'.heap[gb503]? = some (.cells #[(.slice Ao24 t493.length co24), (.slice Ao27 t496.length co27), .int .i64 t499, .int .i64 t500, .int .i64 t501] 30 (0, 0))) ∧ Aside0 (Below w.heap.size w w'))
     case atStart => exact ⟨(0), (by first | rfl | (simp; done) | (simp [*]; done)), H', ⟨Nat.le_refl _⟩, ⟨by (with_reducible repeat (first | apply Kd.R_alloc | apply Kd.R_drewN | apply Kd.R_drew)); exact Kd.R_mono (Kd.R_far (p := ⟨gb503, 4, none⟩) (Kd.R_far (p := ⟨gb503, 3, none⟩) (Kd.R_far (p := ⟨gb503, 2, none⟩) (Kd.R_far (p := ⟨gb503, 1, none⟩) (Kd.R_far (p := ⟨gb503, 0, none⟩) (Kd.R_types HO_3.out BK503.out (by decide)) (fun _ hk => hk.2) (.slice Ao24 t493.length co24)) (fun _ hk => hk.2) (.slice Ao27 t496.length co27)) (fun _ hk => hk.2) (.int .i64 t499)) (fun _ hk => hk.2) (.int .i64 t500)) (fun _ hk => hk.2) (.int .i64 t501)) (fun _ hk => ⟨hk.1.1.2, hk.1.2⟩)⟩, ⟨by (with_reducible repeat (first | apply Kd.R_alloc | apply Kd.R_drewN | apply Kd.R_drew)); exact Kd.R_mono (Kd.R_far (p := ⟨gb503, 4, none⟩) (Kd.R_far (p := ⟨gb503, 3, none⟩) (Kd.R_far (p := ⟨gb503, 2, none⟩) (Kd.R_far (p := ⟨gb503, 1, none⟩) (Kd.R_far (p := ⟨gb503, 0, none⟩) (Kd.R_types HO495.out BK503.out (by decide)) (fun _ hk => hk.2) (.slice Ao24 t493.length co24)) (fun _ hk => hk.2) (.slice Ao27 t496.length co27)) (fun _ hk => hk.2) (.int .i64 t499)) (fun _ hk => hk.2) (.int .i64 t500)) (fun _ hk => hk.2) (.int .i64 t501)) (fun _ hk => ⟨hk.1.2, hk.1.1⟩)⟩, ⟨by (with_reducible repeat (first | apply Kd.R_alloc | apply Kd.R_drewN | apply Kd.R_drew)); exact Kd.R_mono (Kd.R_far (p := ⟨gb503, 4, none⟩) (Kd.R_far (p := ⟨gb503, 3, none⟩) (Kd.R_far (p := ⟨gb503, 2, none⟩) (Kd.R_far (p := ⟨gb503, 1, none⟩) (Kd.R_far (p := ⟨gb503, 0, none⟩) (Kd.R_types HO498.out BK503.out (by decide)) (fun _ hk => hk.2) (.slice Ao24 t493.length co24)) (fun _ hk => hk.2) (.slice Ao27 t496.length co27)) (fun _ hk => hk.2) (.int .i64 t499)) (fun _ hk => hk.2) (.int .i64 t500)) (fun _ hk => hk.2) (.int .i64 t501)) (fun _ hk => ⟨hk.1.2, hk.1.1⟩)⟩, ⟨by apply_rules (transparency := .reducible) only [blk_drewN, blk_drew, blk_alloc, blk_far, NB486_503.out, BK486.out]⟩, ⟨by (try apply_rules (transparency := .reducible) only [blk_drewN, blk_drew, blk_alloc]); refine blk_put (cs := #[.slice Ao24 t493.length co24, .slice Ao27 t496.length co27, .int .i64 t499, .int .i64 t500, .int .i64 0]) ?_ 4 _ rfl; refine blk_put (cs := #[.slice Ao24 t493.length co24, .slice Ao27 t496.length co27, .int .i64 t499, .int .i64 0, .int .i64 0]) ?_ 3 _ rfl; refine blk_put (cs := #[.slice Ao24 t493.length co24, .slice Ao27 t496.length co27, .int .i64 0, .int .i64 0, .int .i64 0]) ?_ 2 _ rfl; refine blk_put (cs := #[.slice Ao24 t493.length co24, .slice none 0 0, .int .i64 0, .int .i64 0, .int .i64 0]) ?_ 1 _ rfl; refine blk_put (cs := #[.slice none 0 0, .slice none 0 0, .int .i64 0, .int .i64 0, .int .i64 0]) ?_ 0 _ rfl; (try apply_rules (transparency := .reducible) only [blk_drewN, blk_drew, blk_alloc]); exact BK503.out⟩, ⟨by apply_rules (transparency := .reducible) only [HB.out, below_alloc, pw_below_drewN, below_drew1, below_set, GE486.out, GE503.out]⟩⟩
     case round =>
      clear H'
      (try clear c1); (try clear c2); (try clear p2); (try clear c7); (try clear c8); (try clear c10); (try clear c15); (try clear c18); (try clear c19); (try clear c19b0); (try clear c19b1); (try clear c25); (try clear hcz11_0); (try clear hcz11_1); (try clear hcz11_2); (try clear hcz20_0); (try clear hcz20_1); (try clear hcz20_2); (try clear hcz26_0); (try clear hcz26_1); (try clear hcz26_2); (try clear hcz26_3); (try clear hcz26_4); (try clear hcz5_0); (try clear hcz5_1); (try clear hcz5_2); (try clear hfz11_0); (try clear hfz11_1); (try clear hfz11_2); (try clear hfz20_0); (try clear hfz20_1); (try clear hfz20_2); (try clear hfz26_0); (try clear hfz26_1); (try clear hfz26_2); (try clear hfz26_3); (try clear hfz26_4); (try clear hfz5_0); (try clear hfz5_1); (try clear hfz5_2); (try clear p2)
      obtain ⟨x6_2, rfl, HA, HK2, HO_3, HO_504000, HO_504001, BK486, BK503, HB⟩ := hrel
      cases gk with
      | zero => exact absurd HA.out (by simp [splicelaw13_PatchKeeps.l0])
      | succ k2 =>
       have H := HA.out
       clear HA
       simp only [splicelaw13_PatchKeeps.l0] at H
       by_cases c28 : x6_2 < (t487.length : Int)
       ·
        rw [if_pos c28] at H
        have c28b0 : decide (x6_2 < (t487.length : Int)) = true := decide_eq_true c28
        clear c28
        obtain ⟨y504, hy504⟩ : ∃ y_ : List Int, y_ = (([] : List Int)) := ⟨_, rfl⟩
        (first | rw [Option.bind_some, ← hy504] at H | rw [← hy504] at H | skip)
        have Ny504 := Aside0.mk hy504
        clear hy504
        by_cases c29 : 0 ≤ x6_2
        ·
         rw [if_pos c29] at H
         have c29b0 : decide (0 ≤ x6_2) = true := decide_eq_true c29
         clear c29
         by_cases c30 : x6_2 < (l0_0.length : Int)
         ·
          rw [if_pos c30] at H
          have c30b0 : decide (x6_2 < (l0_0.length : Int)) = true := decide_eq_true c30
          clear c30
          by_cases c31 : y504.length + ((rd_T44 l0_0 x6_2).f3).length < 35184372088832
          ·
           rw [if_pos c31] at H
           have LMc31 := Aside0.mk c31
           clear c31
           obtain ⟨y508, hy508⟩ : ∃ y_ : List Int, y_ = (y504 ++ ((rd_T44 l0_0 x6_2).f3)) := ⟨_, rfl⟩
           (first | rw [Option.bind_some, ← hy508] at H | rw [← hy508] at H | skip)
           have Ny508 := Aside0.mk hy508
           clear hy508
           replace H := Option.bind_eq_some_iff.mp H
           obtain ⟨⟨t511, t514⟩, A320, H⟩ := H
           try dsimp only at H
           have A32 := Aside0.mk A320
           clear A320
           have H' := Aside0.mk H
           clear H
           go_wp2_with (first | ((with_reducible refine gate_dst (N := 41) rfl ?_); refine Kd.R_lit (Kd.int .u32) _ 47 ?hg (N := 41) ?hd (xs := ([] : List Int)) (inner := []) (ok := fun _ => True) (okp := fun _ => True) ?hr ?hp (fun _ hk => hk) trivial (Below.refl _ _) (Nat.le_refl _) (by simp) ?_; (case hd => rfl); (case hg => rfl); (case hr => first | (go_simp; done) | (go_simp; rfl)); (case hp => exact (Reps.none _ _)); intro v505 w33 ho34 hb hg_ hnew_; clear hg_ hnew_; (first | rw [← Ny504.out] at ho34 | (simp only [Int.reduceToNat] at ho34; rw [← Ny504.out] at ho34)); have n0_ := Aside0.mk (Kd.R_below (by (with_reducible repeat (first | apply Kd.R_alloc | apply Kd.R_drewN | apply Kd.R_drew)); exact HO_3.out) hb); have n1_ := Aside0.mk (Kd.R_below (by (with_reducible repeat (first | apply Kd.R_alloc | apply Kd.R_drewN | apply Kd.R_drew)); exact HO_504000.out) hb); have n2_ := Aside0.mk (Kd.R_below (by (with_reducible repeat (first | apply Kd.R_alloc | apply Kd.R_drewN | apply Kd.R_drew)); exact HO_504001.out) hb); have n3_ := Aside0.mk (Kd.R_lower ho34 (below_size (by apply_rules (transparency := .reducible) only [HB.out, below_alloc, pw_below_drewN, below_drew1, below_set, GE486.out, GE503.out]))); have n4_ := Aside0.mk (blk_below (g := gb486) (o := .cells #[.slice A0_0 l0_0.length c0_0, .slice A0_1 l0_1.length c0_1, .int .i64 a0_2] 25 (0, 0)) (by apply_rules (transparency := .reducible) only [blk_drewN, blk_drew, blk_alloc, BK486.out]) hb); have n5_ := Aside0.mk (blk_below (g := gb503) (o := .cells #[.slice Ao24 t493.length co24, .slice Ao27 t496.length co27, .int .i64 t499, .int .i64 t500, .int .i64 t501] 30 (0, 0)) (by apply_rules (transparency := .reducible) only [blk_drewN, blk_drew, blk_alloc, BK503.out]) hb); have n6_ := Aside0.mk (below_step (by apply_rules (transparency := .reducible) only [HB.out, below_alloc, pw_below_drewN, below_drew1, below_set, GE486.out, GE503.out]) hb); clear HO_3; clear HO_504000; clear HO_504001; clear BK486; clear BK503; clear HB; have HO_3 := n0_; have HO_504000 := n1_; have HO_504001 := n2_; have HO506 := n3_; have BK486 := n4_; have BK503 := n5_; have HB := n6_; clear n0_ n1_ n2_ n3_ n4_ n5_ n6_; clear hb ho34; have hnb35 := NB486_503.out; have hnc35 := NB503_486.out; obtain ⟨hcz36_0, hcz36_1, hcz36_2⟩ := blkc50_3 BK486.out; obtain ⟨hfz36_0, hfz36_1, hfz36_2⟩ := blkf50_3 BK486.out; have p507 : 0 ≤ (x6_2 : Int) := of_decide_eq_true (by first | (with_reducible assumption) | assumption); have q507 : x6_2 < (l0_0.length : Int) := of_decide_eq_true (by first | (with_reducible assumption) | assumption); obtain ⟨ad507, A507_3, c507_3, A507_4, c507_4, e507, hx507_0, hx507_1, hx507_2, hx507_3, hx507_4, hl507_3, hi507_3, hl507_4, hi507_4⟩ := at_T44 HR0_0.out x6_2 p507 q507; cases e507; replace hx507_0 := (HB.out.cell (World.block_lt_of_cell? w _ hx507_0)).trans hx507_0; replace hx507_1 := (HB.out.cell (World.block_lt_of_cell? w _ hx507_1)).trans hx507_1; replace hx507_2 := (HB.out.cell (World.block_lt_of_cell? w _ hx507_2)).trans hx507_2; replace hx507_3 := (HB.out.cell (World.block_lt_of_cell? w _ hx507_3)).trans hx507_3; replace hx507_4 := (HB.out.cell (World.block_lt_of_cell? w _ hx507_4)).trans hx507_4; have HR507_3 := Aside0.mk hi507_3; have HC507_3 := Aside0.mk hl507_3; clear hi507_3 hl507_3; have HR507_4 := Aside0.mk hi507_4; have HC507_4 := Aside0.mk hl507_4; clear hi507_4 hl507_4; replace p507 := eq_true p507; replace q507 := eq_true q507) | ((with_reducible refine gate_builtin (b := .append) (xs := #[.tmp 41, .tmp 47]) rfl ?_); at_builtin; refine Kd.R_append_rows (Kd.int .u32) (w0 := w) w.heap.size rfl (.tmp 41) (.tmp 47) 34 47 (.int .u32 0) 4 rfl Try.underlying34 info47 rfl (by decide) (by omega) v505 y504 ((rd_T44 l0_0 x6_2).f3) _ _ _ (fun _ => True) (fun _ => False) rfl rfl ?aO ?aR (fun _ _ h => h) (fun _ h => h.elim) ?aF ?aB ?aS ?aL ?_; (case aR => repeat (first | exact (Kd.C_below HR507_3.out HB.out) | (with_reducible refine Kd.C_alloc ?_ _) | (with_reducible refine Kd.C_drewN ?_ _) | (with_reducible refine Kd.C_drew ?_))); (case aB => exact (by apply_rules (transparency := .reducible) only [HB.out, below_alloc, pw_below_drewN, below_drew1, below_set, GE486.out, GE503.out])); (case aF => exact (fun _ _ => trivial)); (case aO => exact (by (with_reducible repeat (first | apply Kd.R_alloc | apply Kd.R_drewN | apply Kd.R_drew)); exact HO506.out)); (case aS => exact (below_size (by apply_rules (transparency := .reducible) only [HB.out, below_alloc, pw_below_drewN, below_drew1, below_set, GE486.out, GE503.out]))); (case aL => have := LMc31.out; omega); intro v509 w37 ho hb hg hat; rw [← Ny508.out] at ho; have n0_ := Aside0.mk (Kd.R_over' (by (with_reducible repeat (first | apply Kd.R_alloc | apply Kd.R_drewN | apply Kd.R_drew)); exact HO_3.out) (Kd.R_typed (by (with_reducible repeat (first | apply Kd.R_alloc | apply Kd.R_drewN | apply Kd.R_drew)); exact HO506.out)) (by decide) hg); have n1_ := Aside0.mk (Kd.R_over' (by (with_reducible repeat (first | apply Kd.R_alloc | apply Kd.R_drewN | apply Kd.R_drew)); exact HO_504000.out) (Kd.R_typed (by (with_reducible repeat (first | apply Kd.R_alloc | apply Kd.R_drewN | apply Kd.R_drew)); exact HO506.out)) (by decide) hg); have n2_ := Aside0.mk (Kd.R_over' (by (with_reducible repeat (first | apply Kd.R_alloc | apply Kd.R_drewN | apply Kd.R_drew)); exact HO_504001.out) (Kd.R_typed (by (with_reducible repeat (first | apply Kd.R_alloc | apply Kd.R_drewN | apply Kd.R_drew)); exact HO506.out)) (by decide) hg); have n3_ := Aside0.mk (blk_grown (g := gb486) (o := .cells #[.slice (some ad507) l0_0.length c0_0, .slice A0_1 l0_1.length c0_1, .int .i64 a0_2] 25 (0, 0)) (by apply_rules (transparency := .reducible) only [blk_drewN, blk_drew, blk_alloc, BK486.out]) hg (Kd.R_ne HO506.out BK486.out (by decide))); have n4_ := Aside0.mk (blk_grown (g := gb503) (o := .cells #[.slice Ao24 t493.length co24, .slice Ao27 t496.length co27, .int .i64 t499, .int .i64 t500, .int .i64 t501] 30 (0, 0)) (by apply_rules (transparency := .reducible) only [blk_drewN, blk_drew, blk_alloc, BK503.out]) hg (Kd.R_ne HO506.out BK503.out (by decide))); have n5_ := Aside0.mk (hb); have n6_ := Aside0.mk (ho); clear HO_3; clear HO_504000; clear HO_504001; clear BK486; clear BK503; clear HB; clear HO506; have HO_3 := n0_; have HO_504000 := n1_; have HO_504001 := n2_; have BK486 := n3_; have BK503 := n4_; have HB := n5_; have HO510 := n6_; clear n0_ n1_ n2_ n3_ n4_ n5_ n6_; clear ho hb hg hat; obtain ⟨hcz38_0, hcz38_1, hcz38_2⟩ := blkc50_3 BK486.out; obtain ⟨hfz38_0, hfz38_1, hfz38_2⟩ := blkf50_3 BK486.out; obtain ⟨hcz39_0, hcz39_1, hcz39_2, hcz39_3, hcz39_4⟩ := blkc50_5 BK503.out; obtain ⟨hfz39_0, hfz39_1, hfz39_2, hfz39_3, hfz39_4⟩ := blkf50_5 BK503.out) | ((with_reducible refine gate_callee (f := 11) rfl ?_); refine goesL_ (some 53) rfl rfl Try.func11 (by kernel_rfl) rfl #[.agg #[.slice (some ad507) l0_0.length c0_0, .slice A0_1 l0_1.length c0_1, .int .i64 a0_2], .agg #[.slice Ao24 t493.length co24, .slice Ao27 t496.length co27, .int .i64 t499, .int .i64 t500, .int .i64 t501], .int .i64 x6_2] rfl (by (try simp only [List.map_toArray, List.map_cons, List.map_nil]); first | done | rfl | (simp only [List.length_drop, List.length_take]; rfl)) ?_; (with_reducible refine (patch_Code.calls k2 _ _ l0_0 _ _ l0_1 a0_2 _ _ t493 _ _ t496 t499 t500 t501 x6_2 t511 t514 _ ?side1 ?side2 ?side3 ?side4 ?side5 ?side6 ?side7 ?side8 A32.out).mono ?_); (case side1 => repeat (first | exact (Kd.C_below HR0_0.out HB.out) | (with_reducible refine Kd.C_alloc ?_ _) | (with_reducible refine Kd.C_drewN ?_ _) | (with_reducible refine Kd.C_drew ?_))); (case side2 => exact HC0_0.out); (case side3 => repeat (first | exact (Kd.C_below HR0_1.out HB.out) | (with_reducible refine Kd.C_alloc ?_ _) | (with_reducible refine Kd.C_drewN ?_ _) | (with_reducible refine Kd.C_drew ?_))); (case side4 => exact HC0_1.out); (case side5 => repeat (first | exact (Kd.R_reads' HO_504000.out).2.2 | (with_reducible refine Kd.C_alloc ?_ _) | (with_reducible refine Kd.C_drewN ?_ _) | (with_reducible refine Kd.C_drew ?_))); (case side6 => exact (Kd.R_reads' HO_504000.out).2.1); (case side7 => repeat (first | exact (Kd.R_reads' HO_504001.out).2.2 | (with_reducible refine Kd.C_alloc ?_ _) | (with_reducible refine Kd.C_drewN ?_ _) | (with_reducible refine Kd.C_drew ?_))); (case side8 => exact (Kd.R_reads' HO_504001.out).2.1); rintro e w40 ⟨v512, rfl, ho0, hb⟩; refine ⟨_, rfl, ?_⟩; have n0_ := Aside0.mk (Kd.R_below (by (with_reducible repeat (first | apply Kd.R_alloc | apply Kd.R_drewN | apply Kd.R_drew)); exact HO_3.out) hb); have n1_ := Aside0.mk (Kd.R_below (by (with_reducible repeat (first | apply Kd.R_alloc | apply Kd.R_drewN | apply Kd.R_drew)); exact HO_504000.out) hb); have n2_ := Aside0.mk (Kd.R_below (by (with_reducible repeat (first | apply Kd.R_alloc | apply Kd.R_drewN | apply Kd.R_drew)); exact HO_504001.out) hb); have n3_ := Aside0.mk (Kd.R_elder' (by (with_reducible repeat (first | apply Kd.R_alloc | apply Kd.R_drewN | apply Kd.R_drew)); exact HO510.out) (Kd.R_base ho0) hb); have n4_ := Aside0.mk (Kd.R_lower (Kd.R_new' ho0 (Kd.R_lt (by (with_reducible repeat (first | apply Kd.R_alloc | apply Kd.R_drewN | apply Kd.R_drew)); exact HO510.out))) (below_size (by apply_rules (transparency := .reducible) only [HB.out, below_alloc, pw_below_drewN, below_drew1, below_set, GE486.out, GE503.out]))); have n5_ := Aside0.mk (blk_below (g := gb486) (o := .cells #[.slice (some ad507) l0_0.length c0_0, .slice A0_1 l0_1.length c0_1, .int .i64 a0_2] 25 (0, 0)) (by apply_rules (transparency := .reducible) only [blk_drewN, blk_drew, blk_alloc, BK486.out]) hb); have n6_ := Aside0.mk (blk_below (g := gb503) (o := .cells #[.slice Ao24 t493.length co24, .slice Ao27 t496.length co27, .int .i64 t499, .int .i64 t500, .int .i64 t501] 30 (0, 0)) (by apply_rules (transparency := .reducible) only [blk_drewN, blk_drew, blk_alloc, BK503.out]) hb); have n7_ := Aside0.mk (below_step (by apply_rules (transparency := .reducible) only [HB.out, below_alloc, pw_below_drewN, below_drew1, below_set, GE486.out, GE503.out]) hb); clear HO_3; clear HO_504000; clear HO_504001; clear HO510; clear BK486; clear BK503; clear HB; have HO_3 := n0_; have HO_504000 := n1_; have HO_504001 := n2_; have HO510 := n3_; have HO513 := n4_; have BK486 := n5_; have BK503 := n6_; have HB := n7_; clear n0_ n1_ n2_ n3_ n4_ n5_ n6_ n7_; (try clear hb); (try clear hb2); (try clear hk); (try clear hi); (try clear ho0)))
           go_loopg [10] k2 (fun kq v10 w' => ∃ (x8_3 : List Int) (x10_3 : Int), v10 = .int .i64 x10_3 ∧ Aside0 (splicelaw13_PatchKeeps.l1 kq t487 x6_2 y508 x8_3 x10_3 l0_0 l0_1 a0_2 t493 t496 t499 t500 t501 = some r) ∧ Aside0 (kq ≤ k2) ∧ Aside0 (Kd.R (Kd.int .i64) 3 w' w.heap.size (fun k_ => some k_ ≠ ((.slice Ao24 t493.length co24) : Value).ownBlock ∧ some k_ ≠ ((.slice Ao27 t496.length co27) : Value).ownBlock) (.slice Ao21 t487.length co21) t487) ∧ Aside0 (Kd.R (Kd.int .u32) 47 w' w.heap.size (fun k_ => some k_ ≠ (v512 : Value).ownBlock) v509 y508) ∧ Aside0 (Kd.R (Kd.int .u32) 47 w' w.heap.size (fun k_ => some k_ ≠ (v509 : Value).ownBlock) v512 x8_3) ∧ Aside0 (Kd.R (Kd.int .i64) 3 w' w.heap.size (fun k_ => some k_ ≠ ((.slice Ao21 t487.length co21) : Value).ownBlock ∧ some k_ ≠ ((.slice Ao27 t496.length co27) : Value).ownBlock) (.slice Ao24 t493.length co24) t493) ∧ Aside0 (Kd.R (Kd.int .i64) 3 w' w.heap.size (fun k_ => some k_ ≠ ((.slice Ao21 t487.length co21) : Value).ownBlock ∧ some k_ ≠ ((.slice Ao24 t493.length co24) : Value).ownBlock) (.slice Ao27 t496.length co27) t496) ∧ Aside0 (w'.heap[gb486]? = some (.cells #[(.slice (some ad507) l0_0.length c0_0), (.slice A0_1 l0_1.length c0_1), .int .i64 a0_2] 25 (0, 0))) ∧ Aside0 (w'.heap[gb503]? = some (.cells #[(.slice Ao24 t493.length co24), (.slice Ao27 t496.length co27), .int .i64 t499, .int .i64 t500, .int .i64 t501] 30 (0, 0))) ∧ Aside0 (Below w.heap.size w w'))
           case atStart => exact ⟨(t511), (0), (by first | rfl | (simp; done) | (simp [*]; done)), H', ⟨Nat.le_refl _⟩, ⟨by (with_reducible repeat (first | apply Kd.R_alloc | apply Kd.R_drewN | apply Kd.R_drew)); exact HO_3.out⟩, ⟨by (with_reducible repeat (first | apply Kd.R_alloc | apply Kd.R_drewN | apply Kd.R_drew)); exact Kd.R_mono HO510.out (fun _ hk => hk.2)⟩, ⟨by (with_reducible repeat (first | apply Kd.R_alloc | apply Kd.R_drewN | apply Kd.R_drew)); exact Kd.R_mono HO513.out (fun _ hk => hk.2)⟩, ⟨by (with_reducible repeat (first | apply Kd.R_alloc | apply Kd.R_drewN | apply Kd.R_drew)); exact HO_504000.out⟩, ⟨by (with_reducible repeat (first | apply Kd.R_alloc | apply Kd.R_drewN | apply Kd.R_drew)); exact HO_504001.out⟩, ⟨by apply_rules (transparency := .reducible) only [blk_drewN, blk_drew, blk_alloc, BK486.out]⟩, ⟨by apply_rules (transparency := .reducible) only [blk_drewN, blk_drew, blk_alloc, BK503.out]⟩, ⟨by apply_rules (transparency := .reducible) only [HB.out, below_alloc, pw_below_drewN, below_drew1, below_set, GE486.out, GE503.out]⟩⟩
           case round =>
            clear H'
            (try clear c1); (try clear c2); (try clear p2); (try clear c3); (try clear c5); (try clear p5); (try clear q5); (try clear hx5); (try clear c7); (try clear c8); (try clear c10); (try clear c11); (try clear c15); (try clear c18); (try clear c19); (try clear c19b0); (try clear c19b1); (try clear c25); (try clear c28); (try clear c28b0); (try clear c29); (try clear c29b0); (try clear c30); (try clear c30b0); (try clear c31); (try clear c35); (try clear hcz11_0); (try clear hcz11_1); (try clear hcz11_2); (try clear hcz20_0); (try clear hcz20_1); (try clear hcz20_2); (try clear hcz26_0); (try clear hcz26_1); (try clear hcz26_2); (try clear hcz26_3); (try clear hcz26_4); (try clear hcz36_0); (try clear hcz36_1); (try clear hcz36_2); (try clear hcz38_0); (try clear hcz38_1); (try clear hcz38_2); (try clear hcz39_0); (try clear hcz39_1); (try clear hcz39_2); (try clear hcz39_3); (try clear hcz39_4); (try clear hcz5_0); (try clear hcz5_1); (try clear hcz5_2); (try clear hfz11_0); (try clear hfz11_1); (try clear hfz11_2); (try clear hfz20_0); (try clear hfz20_1); (try clear hfz20_2); (try clear hfz26_0); (try clear hfz26_1); (try clear hfz26_2); (try clear hfz26_3); (try clear hfz26_4); (try clear hfz36_0); (try clear hfz36_1); (try clear hfz36_2); (try clear hfz38_0); (try clear hfz38_1); (try clear hfz38_2); (try clear hfz39_0); (try clear hfz39_1); (try clear hfz39_2); (try clear hfz39_3); (try clear hfz39_4); (try clear hfz5_0); (try clear hfz5_1); (try clear hfz5_2); (try clear hx507_0); (try clear hx507_1); (try clear hx507_2); (try clear hx507_3); (try clear hx507_4); (try clear p2); (try clear p507); (try clear q507)
            obtain ⟨x8_3, x10_3, rfl, HA, HK3, HO_3, HO_7, HO_8, HO_504000, HO_504001, BK486, BK503, HB⟩ := hrel
            cases gk with
            | zero => exact absurd HA.out (by simp [splicelaw13_PatchKeeps.l1])
            | succ k3 =>
             have H := HA.out
             clear HA
             simp only [splicelaw13_PatchKeeps.l1] at H
             by_cases c41 : x10_3 < (x8_3.length : Int)
             ·
              rw [if_pos c41] at H
              have c41b0 : decide (x10_3 < (x8_3.length : Int)) = true := decide_eq_true c41
              clear c41
              by_cases c42 : 0 ≤ x10_3
              ·
               rw [if_pos c42] at H
               have c42b0 : decide (0 ≤ x10_3) = true := decide_eq_true c42
               clear c42
               obtain ⟨y515, hy515⟩ : ∃ y_ : List Int, y_ = (x8_3.set (x10_3 : Int).toNat 7) := ⟨_, rfl⟩
               (first | rw [Option.bind_some, ← hy515] at H | rw [← hy515] at H | skip)
               have Ny515 := Aside0.mk hy515
               clear hy515
               have H' := Aside0.mk H
               clear H
               obtain ⟨Ao44, co44, eo44⟩ := Kd.R_slice HO_8.out
               subst eo44
               have p43 : 0 ≤ (x10_3 : Int) := of_decide_eq_true (by first | (with_reducible assumption) | assumption)
               have q43 : (x10_3 : Int) < ((x8_3.length : Int) : Int) := of_decide_eq_true (by first | (with_reducible assumption) | assumption)
               obtain ⟨go43, co43, eo43, gb43, gl43, cl43, HG43⟩ := Kd.R_form HO_8.out (by omega)
               (first | cases eo43 | (injection eo43 with ea_ en_ ec_; (first | subst ea_ | (injection ea_ with ea_; subst ea_)); subst ec_; clear en_))
               have GB43 := Aside0.mk gb43
               have GG43 := Aside0.mk HG43
               clear gb43 gl43 HG43
               obtain ⟨hx43_0, hf43_0⟩ := Kd.R_celln 0 HO_8.out (x10_3 : Int) p43 q43
               replace p43 := eq_true p43
               replace q43 := eq_true q43
               have HP45 := Kd.R_putg HO_8.out (x10_3 : Int) 7
               go_wp2_with (first | ((with_reducible refine gate_store (t := 47) (p := 64) rfl ?_); refine store_event (t := 47) (p := 64) (v := ?vo_w46) (w1 := (wr.setCell ⟨go43, (x10_3 : Int).toNat, none⟩ (.int .u32 7))) ?hg ?ho ?hn ?hr ?_; (case ho => rfl); (case hg => rfl); (case hn => rfl); (case hr => first | (go_simp; done) | (go_simp; rfl)); intro w46 hw; have hg : wr.grownBy w46 (some go43) := (by rw [hw]; exact HP45.2); have hp_ : Kd.R (Kd.int .u32) 47 w46 w.heap.size (fun k_ => some k_ ≠ (v509 : Value).ownBlock) (.slice (some ⟨go43, 0, none⟩) x8_3.length co44) y515 := (by rw [hw, Ny515.out]; exact HP45.1); clear HP45; have n0_ := Aside0.mk (Kd.R_over' (v := (.slice (some ⟨go43, 0, none⟩) x8_3.length co44)) (by (with_reducible repeat (first | apply Kd.R_alloc | apply Kd.R_drewN | apply Kd.R_drew)); exact HO_3.out) (Kd.R_typed HO_8.out) (by decide) hg); have n1_ := Aside0.mk (Kd.R_after (v := (.slice (some ⟨go43, 0, none⟩) x8_3.length co44)) (v1 := (.slice (some ⟨go43, 0, none⟩) x8_3.length co44)) (ok := (fun _ => True)) (by (with_reducible repeat (first | apply Kd.R_alloc | apply Kd.R_drewN | apply Kd.R_drew)); exact Kd.R_mono HO_7.out (fun _ hk => ⟨trivial, hk⟩)) hg (.inl rfl)); have n2_ := Aside0.mk (hp_); have n3_ := Aside0.mk (Kd.R_over' (v := (.slice (some ⟨go43, 0, none⟩) x8_3.length co44)) (by (with_reducible repeat (first | apply Kd.R_alloc | apply Kd.R_drewN | apply Kd.R_drew)); exact HO_504000.out) (Kd.R_typed HO_8.out) (by decide) hg); have n4_ := Aside0.mk (Kd.R_over' (v := (.slice (some ⟨go43, 0, none⟩) x8_3.length co44)) (by (with_reducible repeat (first | apply Kd.R_alloc | apply Kd.R_drewN | apply Kd.R_drew)); exact HO_504001.out) (Kd.R_typed HO_8.out) (by decide) hg); have n5_ := Aside0.mk (blk_grown (g := gb486) (o := .cells #[.slice (some ad507) l0_0.length c0_0, .slice A0_1 l0_1.length c0_1, .int .i64 a0_2] 25 (0, 0)) (by apply_rules (transparency := .reducible) only [blk_drewN, blk_drew, blk_alloc, BK486.out]) hg (Kd.R_ne HO_8.out BK486.out (by decide))); have n6_ := Aside0.mk (blk_grown (g := gb503) (o := .cells #[.slice Ao24 t493.length co24, .slice Ao27 t496.length co27, .int .i64 t499, .int .i64 t500, .int .i64 t501] 30 (0, 0)) (by apply_rules (transparency := .reducible) only [blk_drewN, blk_drew, blk_alloc, BK503.out]) hg (Kd.R_ne HO_8.out BK503.out (by decide))); have n7_ := Aside0.mk ((by rw [hw]; exact below_set (HB.out) GB43.out : Below w.heap.size w w46)); clear HO_3; clear HO_7; clear HO_8; clear HO_504000; clear HO_504001; clear BK486; clear BK503; clear HB; have HO_3 := n0_; have HO_7 := n1_; have HO_8 := n2_; have HO_504000 := n3_; have HO_504001 := n4_; have BK486 := n5_; have BK503 := n6_; have HB := n7_; clear n0_ n1_ n2_ n3_ n4_ n5_ n6_ n7_; clear hg hw hp_))
               go_roundg k3
               case measure => have := HJ2.out; have := HK2.out; have := HK3.out; omega
               case rel => exact ⟨(y515), (wrap64 (x10_3 + 1)), (by first | rfl | (simp; done) | (simp [*]; done)), H', ⟨by have := HJ2.out; have := HK2.out; have := HK3.out; omega⟩, ⟨by (with_reducible repeat (first | apply Kd.R_alloc | apply Kd.R_drewN | apply Kd.R_drew)); exact HO_3.out⟩, ⟨by (with_reducible repeat (first | apply Kd.R_alloc | apply Kd.R_drewN | apply Kd.R_drew)); exact Kd.R_mono HO_7.out (fun _ hk => hk.2)⟩, ⟨by (with_reducible repeat (first | apply Kd.R_alloc | apply Kd.R_drewN | apply Kd.R_drew)); exact HO_8.out⟩, ⟨by (with_reducible repeat (first | apply Kd.R_alloc | apply Kd.R_drewN | apply Kd.R_drew)); exact HO_504000.out⟩, ⟨by (with_reducible repeat (first | apply Kd.R_alloc | apply Kd.R_drewN | apply Kd.R_drew)); exact HO_504001.out⟩, ⟨by apply_rules (transparency := .reducible) only [blk_drewN, blk_drew, blk_alloc, BK486.out]⟩, ⟨by apply_rules (transparency := .reducible) only [blk_drewN, blk_drew, blk_alloc, BK503.out]⟩, ⟨by apply_rules (transparency := .reducible) only [HB.out, below_alloc, pw_below_drewN, below_drew1, below_set, GE486.out, GE503.out]⟩⟩
              ·
               rw [if_neg c42] at H
               exact absurd H (by simp)
             ·
              rw [if_neg c41] at H
              have c41b0 : decide (x10_3 < (x8_3.length : Int)) = false := decide_eq_false c41
              clear c41
              by_cases c47 : 0 ≤ x6_2
              ·
               rw [if_pos c47] at H
               have c47b0 : decide (0 ≤ x6_2) = true := decide_eq_true c47
               clear c47
               by_cases c48 : x6_2 < (l0_0.length : Int)
               ·
                rw [if_pos c48] at H
                have c48b0 : decide (x6_2 < (l0_0.length : Int)) = true := decide_eq_true c48
                clear c48
                replace H := Option.bind_eq_some_iff.mp H
                obtain ⟨t517, A490, H⟩ := H
                try dsimp only at H
                have A49 := Aside0.mk A490
                clear A490
                by_cases c50 : t517 = true
                ·
                 subst c50
                 rw [if_pos rfl] at H
                 have H' := Aside0.mk H
                 clear H
                 obtain ⟨Ao51, co51, eo51⟩ := Kd.R_slice HO_8.out
                 subst eo51
                 have hnb52 := NB486_503.out
                 have hnc52 := NB503_486.out
                 obtain ⟨hcz53_0, hcz53_1, hcz53_2⟩ := blkc50_3 BK486.out
                 obtain ⟨hfz53_0, hfz53_1, hfz53_2⟩ := blkf50_3 BK486.out
                 have p516 : 0 ≤ (x6_2 : Int) := of_decide_eq_true (by first | (with_reducible assumption) | assumption)
                 have q516 : x6_2 < (l0_0.length : Int) := of_decide_eq_true (by first | (with_reducible assumption) | assumption)
                 obtain ⟨ad516, A516_3, c516_3, A516_4, c516_4, e516, hx516_0, hx516_1, hx516_2, hx516_3, hx516_4, hl516_3, hi516_3, hl516_4, hi516_4⟩ := at_T44 HR0_0.out x6_2 p516 q516
                 obtain rfl : ad507 = ad516 := (by injection e516)
                 replace hx516_0 := (HB.out.cell (World.block_lt_of_cell? w _ hx516_0)).trans hx516_0
                 replace hx516_1 := (HB.out.cell (World.block_lt_of_cell? w _ hx516_1)).trans hx516_1
                 replace hx516_2 := (HB.out.cell (World.block_lt_of_cell? w _ hx516_2)).trans hx516_2
                 replace hx516_3 := (HB.out.cell (World.block_lt_of_cell? w _ hx516_3)).trans hx516_3
                 replace hx516_4 := (HB.out.cell (World.block_lt_of_cell? w _ hx516_4)).trans hx516_4
                 have HR516_3 := Aside0.mk hi516_3
                 have HC516_3 := Aside0.mk hl516_3
                 clear hi516_3 hl516_3
                 have HR516_4 := Aside0.mk hi516_4
                 have HC516_4 := Aside0.mk hl516_4
                 clear hi516_4 hl516_4
                 replace p516 := eq_true p516
                 replace q516 := eq_true q516
                 obtain ⟨Ao54, co54, eo54⟩ := Kd.R_slice HO_7.out
                 subst eo54
                 go_wp2_with (first | ((with_reducible refine gate_callee (f := 13) rfl ?_); refine goesL_ (some 72) rfl rfl Try.func13 (by kernel_rfl) rfl #[.slice A516_3 ((rd_T44 l0_0 x6_2).f3).length c516_3, .slice Ao54 y508.length co54] rfl (by (try simp only [List.map_toArray, List.map_cons, List.map_nil]); first | done | rfl | (simp only [List.length_drop, List.length_take]; rfl)) ?_; (with_reducible refine (spliceref01_Words.calls k3 _ _ ((rd_T44 l0_0 x6_2).f3) _ _ y508 true _ ?side1 ?side2 ?side3 ?side4 A49.out).mono ?_); (case side1 => repeat (first | exact (Kd.C_below HR516_3.out HB.out) | (with_reducible refine Kd.C_alloc ?_ _) | (with_reducible refine Kd.C_drewN ?_ _) | (with_reducible refine Kd.C_drew ?_))); (case side2 => exact HC516_3.out); (case side3 => repeat (first | exact (Kd.R_reads' HO_7.out).2.2 | (with_reducible refine Kd.C_alloc ?_ _) | (with_reducible refine Kd.C_drewN ?_ _) | (with_reducible refine Kd.C_drew ?_))); (case side4 => exact (Kd.R_reads' HO_7.out).2.1); rintro e w' ⟨rfl, ⟨nd, rfl⟩⟩; refine ⟨_, rfl, ?_⟩))
                 go_roundg k3
                 case measure => have := HJ2.out; have := HK2.out; have := HK3.out; omega
                 case rel => exact ⟨(wrap64 (x6_2 + 1)), (by first | rfl | (simp; done) | (simp [*]; done)), H', ⟨by have := HJ2.out; have := HK2.out; have := HK3.out; omega⟩, ⟨by (with_reducible repeat (first | apply Kd.R_alloc | apply Kd.R_drewN | apply Kd.R_drew)); exact HO_3.out⟩, ⟨by (with_reducible repeat (first | apply Kd.R_alloc | apply Kd.R_drewN | apply Kd.R_drew)); exact HO_504000.out⟩, ⟨by (with_reducible repeat (first | apply Kd.R_alloc | apply Kd.R_drewN | apply Kd.R_drew)); exact HO_504001.out⟩, ⟨by apply_rules (transparency := .reducible) only [blk_drewN, blk_drew, blk_alloc, BK486.out]⟩, ⟨by apply_rules (transparency := .reducible) only [blk_drewN, blk_drew, blk_alloc, BK503.out]⟩, ⟨by apply_rules (transparency := .reducible) only [HB.out, below_alloc, pw_below_drewN, below_drew1, below_set, GE486.out, GE503.out]⟩⟩
                ·
                 replace c50 := Bool.eq_false_iff.mpr c50
                 subst c50
                 rw [if_neg Bool.false_ne_true] at H
                 exact absurd H (by simp)
               ·
                rw [if_neg c48] at H
                exact absurd H (by simp)
              ·
               rw [if_neg c47] at H
               exact absurd H (by simp)
          ·
           rw [if_neg c31] at H
           exact absurd H (by simp)
         ·
          rw [if_neg c30] at H
          exact absurd H (by simp)
        ·
         rw [if_neg c29] at H
         exact absurd H (by simp)
       ·
        rw [if_neg c28] at H
        have c28b0 : decide (x6_2 < (t487.length : Int)) = false := decide_eq_false c28
        clear c28
        have H' := Aside0.mk H
        clear H
        go_wp2
        go_loopg [11] k2 (fun kq v11 w' => ∃ (x11_3 : Int), v11 = .int .i64 x11_3 ∧ Aside0 (splicelaw13_PatchKeeps.l2 kq x11_3 l0_0 l0_1 a0_2 t493 t496 t499 t500 t501 = some r) ∧ Aside0 (kq ≤ k2) ∧ Aside0 (Kd.R (Kd.int .i64) 3 w' w.heap.size (fun k_ => some k_ ≠ ((.slice Ao27 t496.length co27) : Value).ownBlock) (.slice Ao24 t493.length co24) t493) ∧ Aside0 (Kd.R (Kd.int .i64) 3 w' w.heap.size (fun k_ => some k_ ≠ ((.slice Ao24 t493.length co24) : Value).ownBlock) (.slice Ao27 t496.length co27) t496) ∧ Aside0 (w'.heap[gb486]? = some (.cells #[(.slice A0_0 l0_0.length c0_0), (.slice A0_1 l0_1.length c0_1), .int .i64 a0_2] 25 (0, 0))) ∧ Aside0 (w'.heap[gb503]? = some (.cells #[(.slice Ao24 t493.length co24), (.slice Ao27 t496.length co27), .int .i64 t499, .int .i64 t500, .int .i64 t501] 30 (0, 0))) ∧ Aside0 (Below w.heap.size w w'))
        case atStart => exact ⟨(0), (by first | rfl | (simp; done) | (simp [*]; done)), H', ⟨Nat.le_refl _⟩, ⟨by (with_reducible repeat (first | apply Kd.R_alloc | apply Kd.R_drewN | apply Kd.R_drew)); exact Kd.R_mono HO_504000.out (fun _ hk => hk.2)⟩, ⟨by (with_reducible repeat (first | apply Kd.R_alloc | apply Kd.R_drewN | apply Kd.R_drew)); exact Kd.R_mono HO_504001.out (fun _ hk => hk.2)⟩, ⟨by apply_rules (transparency := .reducible) only [blk_drewN, blk_drew, blk_alloc, BK486.out]⟩, ⟨by apply_rules (transparency := .reducible) only [blk_drewN, blk_drew, blk_alloc, BK503.out]⟩, ⟨by apply_rules (transparency := .reducible) only [HB.out, below_alloc, pw_below_drewN, below_drew1, below_set, GE486.out, GE503.out]⟩⟩
        case round =>
         clear H'
         (try clear c1); (try clear c2); (try clear p2); (try clear c3); (try clear c4); (try clear p4); (try clear q4); (try clear hx4); (try clear hf4); (try clear c5); (try clear p5); (try clear q5); (try clear hx5); (try clear p6); (try clear c7); (try clear c8); (try clear c10); (try clear c11); (try clear c13); (try clear c15); (try clear c18); (try clear c19); (try clear c19b0); (try clear c19b1); (try clear c25); (try clear c28); (try clear c28b0); (try clear c29); (try clear c29b0); (try clear c30); (try clear c30b0); (try clear c31); (try clear c35); (try clear c41); (try clear c41b0); (try clear c42); (try clear c42b0); (try clear p43); (try clear q43); (try clear hx43); (try clear hf43); (try clear c47); (try clear c47b0); (try clear c48); (try clear c48b0); (try clear c50); (try clear p50); (try clear q50); (try clear hx50); (try clear c51); (try clear p51); (try clear q51); (try clear hx51); (try clear c52); (try clear hcz11_0); (try clear hcz11_1); (try clear hcz11_2); (try clear hcz20_0); (try clear hcz20_1); (try clear hcz20_2); (try clear hcz26_0); (try clear hcz26_1); (try clear hcz26_2); (try clear hcz26_3); (try clear hcz26_4); (try clear hcz36_0); (try clear hcz36_1); (try clear hcz36_2); (try clear hcz38_0); (try clear hcz38_1); (try clear hcz38_2); (try clear hcz39_0); (try clear hcz39_1); (try clear hcz39_2); (try clear hcz39_3); (try clear hcz39_4); (try clear hcz53_0); (try clear hcz53_1); (try clear hcz53_2); (try clear hcz5_0); (try clear hcz5_1); (try clear hcz5_2); (try clear hfz11_0); (try clear hfz11_1); (try clear hfz11_2); (try clear hfz20_0); (try clear hfz20_1); (try clear hfz20_2); (try clear hfz26_0); (try clear hfz26_1); (try clear hfz26_2); (try clear hfz26_3); (try clear hfz26_4); (try clear hfz36_0); (try clear hfz36_1); (try clear hfz36_2); (try clear hfz38_0); (try clear hfz38_1); (try clear hfz38_2); (try clear hfz39_0); (try clear hfz39_1); (try clear hfz39_2); (try clear hfz39_3); (try clear hfz39_4); (try clear hfz53_0); (try clear hfz53_1)
         (try clear hfz53_2); (try clear hfz5_0); (try clear hfz5_1); (try clear hfz5_2); (try clear hx43_0); (try clear hx507_0); (try clear hx507_1); (try clear hx507_2); (try clear hx507_3); (try clear hx507_4); (try clear hx516_0); (try clear hx516_1); (try clear hx516_2); (try clear hx516_3); (try clear hx516_4); (try clear p2); (try clear p43); (try clear p5); (try clear p507); (try clear p516); (try clear q43); (try clear q5); (try clear q507); (try clear q516)
         obtain ⟨x11_3, rfl, HA, HK3, HO_504000, HO_504001, BK486, BK503, HB⟩ := hrel
         cases gk with
         | zero => exact absurd HA.out (by simp [splicelaw13_PatchKeeps.l2])
         | succ k3 =>
          have H := HA.out
          clear HA
          simp only [splicelaw13_PatchKeeps.l2] at H
          by_cases c55 : x11_3 < (l0_1.length : Int)
          ·
           rw [if_pos c55] at H
           have c55b0 : decide (x11_3 < (l0_1.length : Int)) = true := decide_eq_true c55
           clear c55
           obtain ⟨y518, hy518⟩ : ∃ y_ : List Int, y_ = (([] : List Int)) := ⟨_, rfl⟩
           (first | rw [Option.bind_some, ← hy518] at H | rw [← hy518] at H | skip)
           have Ny518 := Aside0.mk hy518
           clear hy518
           by_cases c56 : 0 ≤ x11_3
           ·
            rw [if_pos c56] at H
            have c56b0 : decide (0 ≤ x11_3) = true := decide_eq_true c56
            clear c56
            by_cases c57 : y518.length + ((rd_T55 l0_1 x11_3).f3).length < 140737488355328
            ·
             rw [if_pos c57] at H
             have LMc57 := Aside0.mk c57
             clear c57
             obtain ⟨y522, hy522⟩ : ∃ y_ : List Int, y_ = (y518 ++ ((rd_T55 l0_1 x11_3).f3)) := ⟨_, rfl⟩
             (first | rw [Option.bind_some, ← hy522] at H | rw [← hy522] at H | skip)
             have Ny522 := Aside0.mk hy522
             clear hy522
             replace H := Option.bind_eq_some_iff.mp H
             obtain ⟨⟨t525, t528⟩, A580, H⟩ := H
             try dsimp only at H
             have A58 := Aside0.mk A580
             clear A580
             have H' := Aside0.mk H
             clear H
             have hnb59 := NB486_503.out
             have hnc59 := NB503_486.out
             obtain ⟨hcz60_0, hcz60_1, hcz60_2⟩ := blkc50_3 BK486.out
             obtain ⟨hfz60_0, hfz60_1, hfz60_2⟩ := blkf50_3 BK486.out
             go_wp2_with (first | ((with_reducible refine gate_dst (N := 81) rfl ?_); refine Kd.R_lit (Kd.int .u8) _ 5 ?hg (N := 81) ?hd (xs := ([] : List Int)) (inner := []) (ok := fun _ => True) (okp := fun _ => True) ?hr ?hp (fun _ hk => hk) trivial (Below.refl _ _) (Nat.le_refl _) (by simp) ?_; (case hd => rfl); (case hg => rfl); (case hr => first | (go_simp; done) | (go_simp; rfl)); (case hp => exact (Reps.none _ _)); intro v519 w61 ho62 hb hg_ hnew_; clear hg_ hnew_; (first | rw [← Ny518.out] at ho62 | (simp only [Int.reduceToNat] at ho62; rw [← Ny518.out] at ho62)); have n0_ := Aside0.mk (Kd.R_below (by (with_reducible repeat (first | apply Kd.R_alloc | apply Kd.R_drewN | apply Kd.R_drew)); exact HO_504000.out) hb); have n1_ := Aside0.mk (Kd.R_below (by (with_reducible repeat (first | apply Kd.R_alloc | apply Kd.R_drewN | apply Kd.R_drew)); exact HO_504001.out) hb); have n2_ := Aside0.mk (Kd.R_lower ho62 (below_size (by apply_rules (transparency := .reducible) only [HB.out, below_alloc, pw_below_drewN, below_drew1, below_set, GE486.out, GE503.out]))); have n3_ := Aside0.mk (blk_below (g := gb486) (o := .cells #[.slice A0_0 l0_0.length c0_0, .slice A0_1 l0_1.length c0_1, .int .i64 a0_2] 25 (0, 0)) (by apply_rules (transparency := .reducible) only [blk_drewN, blk_drew, blk_alloc, BK486.out]) hb); have n4_ := Aside0.mk (blk_below (g := gb503) (o := .cells #[.slice Ao24 t493.length co24, .slice Ao27 t496.length co27, .int .i64 t499, .int .i64 t500, .int .i64 t501] 30 (0, 0)) (by apply_rules (transparency := .reducible) only [blk_drewN, blk_drew, blk_alloc, BK503.out]) hb); have n5_ := Aside0.mk (below_step (by apply_rules (transparency := .reducible) only [HB.out, below_alloc, pw_below_drewN, below_drew1, below_set, GE486.out, GE503.out]) hb); clear HO_504000; clear HO_504001; clear BK486; clear BK503; clear HB; have HO_504000 := n0_; have HO_504001 := n1_; have HO520 := n2_; have BK486 := n3_; have BK503 := n4_; have HB := n5_; clear n0_ n1_ n2_ n3_ n4_ n5_; clear hb ho62; obtain ⟨hcz63_0, hcz63_1, hcz63_2⟩ := blkc50_3 BK486.out; obtain ⟨hfz63_0, hfz63_1, hfz63_2⟩ := blkf50_3 BK486.out; have p521 : 0 ≤ (x11_3 : Int) := of_decide_eq_true (by first | (with_reducible assumption) | assumption); have q521 : x11_3 < (l0_1.length : Int) := of_decide_eq_true (by first | (with_reducible assumption) | assumption); obtain ⟨ad521, A521_3, c521_3, A521_4, c521_4, e521, hx521_0, hx521_1, hx521_2, hx521_3, hx521_4, hl521_3, hi521_3, hl521_4, hi521_4⟩ := at_T55 HR0_1.out x11_3 p521 q521; cases e521; replace hx521_0 := (HB.out.cell (World.block_lt_of_cell? w _ hx521_0)).trans hx521_0; replace hx521_1 := (HB.out.cell (World.block_lt_of_cell? w _ hx521_1)).trans hx521_1; replace hx521_2 := (HB.out.cell (World.block_lt_of_cell? w _ hx521_2)).trans hx521_2; replace hx521_3 := (HB.out.cell (World.block_lt_of_cell? w _ hx521_3)).trans hx521_3; replace hx521_4 := (HB.out.cell (World.block_lt_of_cell? w _ hx521_4)).trans hx521_4; have HR521_3 := Aside0.mk hi521_3; have HC521_3 := Aside0.mk hl521_3; clear hi521_3 hl521_3; have HR521_4 := Aside0.mk hi521_4; have HC521_4 := Aside0.mk hl521_4; clear hi521_4 hl521_4; replace p521 := eq_true p521; replace q521 := eq_true q521) | ((with_reducible refine gate_builtin (b := .append) (xs := #[.tmp 81, .tmp 87]) rfl ?_); at_builtin; refine Kd.R_append_rows (Kd.int .u8) (w0 := w) w.heap.size rfl (.tmp 81) (.tmp 87) 38 5 (.int .u8 0) 1 rfl Try.underlying38 info5 rfl (by decide) (by omega) v519 y518 ((rd_T55 l0_1 x11_3).f3) _ _ _ (fun _ => True) (fun _ => False) rfl rfl ?aO ?aR (fun _ _ h => h) (fun _ h => h.elim) ?aF ?aB ?aS ?aL ?_; (case aR => repeat (first | exact (Kd.C_below HR521_3.out HB.out) | (with_reducible refine Kd.C_alloc ?_ _) | (with_reducible refine Kd.C_drewN ?_ _) | (with_reducible refine Kd.C_drew ?_))); (case aB => exact (by apply_rules (transparency := .reducible) only [HB.out, below_alloc, pw_below_drewN, below_drew1, below_set, GE486.out, GE503.out])); (case aF => exact (fun _ _ => trivial)); (case aO => exact (by (with_reducible repeat (first | apply Kd.R_alloc | apply Kd.R_drewN | apply Kd.R_drew)); exact HO520.out)); (case aS => exact (below_size (by apply_rules (transparency := .reducible) only [HB.out, below_alloc, pw_below_drewN, below_drew1, below_set, GE486.out, GE503.out]))); (case aL => have := LMc57.out; omega); intro v523 w64 ho hb hg hat; rw [← Ny522.out] at ho; have n0_ := Aside0.mk (Kd.R_over' (by (with_reducible repeat (first | apply Kd.R_alloc | apply Kd.R_drewN | apply Kd.R_drew)); exact HO_504000.out) (Kd.R_typed (by (with_reducible repeat (first | apply Kd.R_alloc | apply Kd.R_drewN | apply Kd.R_drew)); exact HO520.out)) (by decide) hg); have n1_ := Aside0.mk (Kd.R_over' (by (with_reducible repeat (first | apply Kd.R_alloc | apply Kd.R_drewN | apply Kd.R_drew)); exact HO_504001.out) (Kd.R_typed (by (with_reducible repeat (first | apply Kd.R_alloc | apply Kd.R_drewN | apply Kd.R_drew)); exact HO520.out)) (by decide) hg); have n2_ := Aside0.mk (blk_grown (g := gb486) (o := .cells #[.slice A0_0 l0_0.length c0_0, .slice (some ad521) l0_1.length c0_1, .int .i64 a0_2] 25 (0, 0)) (by apply_rules (transparency := .reducible) only [blk_drewN, blk_drew, blk_alloc, BK486.out]) hg (Kd.R_ne HO520.out BK486.out (by decide))); have n3_ := Aside0.mk (blk_grown (g := gb503) (o := .cells #[.slice Ao24 t493.length co24, .slice Ao27 t496.length co27, .int .i64 t499, .int .i64 t500, .int .i64 t501] 30 (0, 0)) (by apply_rules (transparency := .reducible) only [blk_drewN, blk_drew, blk_alloc, BK503.out]) hg (Kd.R_ne HO520.out BK503.out (by decide))); have n4_ := Aside0.mk (hb); have n5_ := Aside0.mk (ho); clear HO_504000; clear HO_504001; clear BK486; clear BK503; clear HB; clear HO520; have HO_504000 := n0_; have HO_504001 := n1_; have BK486 := n2_; have BK503 := n3_; have HB := n4_; have HO524 := n5_; clear n0_ n1_ n2_ n3_ n4_ n5_; clear ho hb hg hat; obtain ⟨hcz65_0, hcz65_1, hcz65_2⟩ := blkc50_3 BK486.out; obtain ⟨hfz65_0, hfz65_1, hfz65_2⟩ := blkf50_3 BK486.out; obtain ⟨hcz66_0, hcz66_1, hcz66_2, hcz66_3, hcz66_4⟩ := blkc50_5 BK503.out; obtain ⟨hfz66_0, hfz66_1, hfz66_2, hfz66_3, hfz66_4⟩ := blkf50_5 BK503.out) | ((with_reducible refine gate_callee (f := 14) rfl ?_); refine goesL_ (some 93) rfl rfl Try.func14 (by kernel_rfl) rfl #[.agg #[.slice A0_0 l0_0.length c0_0, .slice (some ad521) l0_1.length c0_1, .int .i64 a0_2], .agg #[.slice Ao24 t493.length co24, .slice Ao27 t496.length co27, .int .i64 t499, .int .i64 t500, .int .i64 t501], .int .i64 x11_3] rfl (by (try simp only [List.map_toArray, List.map_cons, List.map_nil]); first | done | rfl | (simp only [List.length_drop, List.length_take]; rfl)) ?_; (with_reducible refine (patch_Data.calls _ _ l0_0 _ _ l0_1 a0_2 _ _ t493 _ _ t496 t499 t500 t501 x11_3 t525 t528 _ ?side1 ?side2 ?side3 ?side4 ?side5 ?side6 ?side7 ?side8 A58.out).mono ?_); (case side1 => repeat (first | exact (Kd.C_below HR0_0.out HB.out) | (with_reducible refine Kd.C_alloc ?_ _) | (with_reducible refine Kd.C_drewN ?_ _) | (with_reducible refine Kd.C_drew ?_))); (case side2 => exact HC0_0.out); (case side3 => repeat (first | exact (Kd.C_below HR0_1.out HB.out) | (with_reducible refine Kd.C_alloc ?_ _) | (with_reducible refine Kd.C_drewN ?_ _) | (with_reducible refine Kd.C_drew ?_))); (case side4 => exact HC0_1.out); (case side5 => repeat (first | exact (Kd.R_reads' HO_504000.out).2.2 | (with_reducible refine Kd.C_alloc ?_ _) | (with_reducible refine Kd.C_drewN ?_ _) | (with_reducible refine Kd.C_drew ?_))); (case side6 => exact (Kd.R_reads' HO_504000.out).2.1); (case side7 => repeat (first | exact (Kd.R_reads' HO_504001.out).2.2 | (with_reducible refine Kd.C_alloc ?_ _) | (with_reducible refine Kd.C_drewN ?_ _) | (with_reducible refine Kd.C_drew ?_))); (case side8 => exact (Kd.R_reads' HO_504001.out).2.1); rintro e w67 ⟨v526, rfl, ho0, hb⟩; refine ⟨_, rfl, ?_⟩; have n0_ := Aside0.mk (Kd.R_below (by (with_reducible repeat (first | apply Kd.R_alloc | apply Kd.R_drewN | apply Kd.R_drew)); exact HO_504000.out) hb); have n1_ := Aside0.mk (Kd.R_below (by (with_reducible repeat (first | apply Kd.R_alloc | apply Kd.R_drewN | apply Kd.R_drew)); exact HO_504001.out) hb); have n2_ := Aside0.mk (Kd.R_elder' (by (with_reducible repeat (first | apply Kd.R_alloc | apply Kd.R_drewN | apply Kd.R_drew)); exact HO524.out) (Kd.R_base ho0) hb); have n3_ := Aside0.mk (Kd.R_lower (Kd.R_new' ho0 (Kd.R_lt (by (with_reducible repeat (first | apply Kd.R_alloc | apply Kd.R_drewN | apply Kd.R_drew)); exact HO524.out))) (below_size (by apply_rules (transparency := .reducible) only [HB.out, below_alloc, pw_below_drewN, below_drew1, below_set, GE486.out, GE503.out]))); have n4_ := Aside0.mk (blk_below (g := gb486) (o := .cells #[.slice A0_0 l0_0.length c0_0, .slice (some ad521) l0_1.length c0_1, .int .i64 a0_2] 25 (0, 0)) (by apply_rules (transparency := .reducible) only [blk_drewN, blk_drew, blk_alloc, BK486.out]) hb); have n5_ := Aside0.mk (blk_below (g := gb503) (o := .cells #[.slice Ao24 t493.length co24, .slice Ao27 t496.length co27, .int .i64 t499, .int .i64 t500, .int .i64 t501] 30 (0, 0)) (by apply_rules (transparency := .reducible) only [blk_drewN, blk_drew, blk_alloc, BK503.out]) hb); have n6_ := Aside0.mk (below_step (by apply_rules (transparency := .reducible) only [HB.out, below_alloc, pw_below_drewN, below_drew1, below_set, GE486.out, GE503.out]) hb); clear HO_504000; clear HO_504001; clear HO524; clear BK486; clear BK503; clear HB; have HO_504000 := n0_; have HO_504001 := n1_; have HO524 := n2_; have HO527 := n3_; have BK486 := n4_; have BK503 := n5_; have HB := n6_; clear n0_ n1_ n2_ n3_ n4_ n5_ n6_; (try clear hb); (try clear hb2); (try clear hk); (try clear hi); (try clear ho0)))
             go_loopg [15] k3 (fun kq v15 w' => ∃ (x13_4 : List Int) (x15_4 : Int), v15 = .int .i64 x15_4 ∧ Aside0 (splicelaw13_PatchKeeps.l3 kq x11_3 y522 x13_4 x15_4 l0_0 l0_1 a0_2 t493 t496 t499 t500 t501 = some r) ∧ Aside0 (kq ≤ k3) ∧ Aside0 (Kd.R (Kd.int .u8) 5 w' w.heap.size (fun k_ => some k_ ≠ (v526 : Value).ownBlock) v523 y522) ∧ Aside0 (Kd.R (Kd.int .u8) 5 w' w.heap.size (fun k_ => some k_ ≠ (v523 : Value).ownBlock) v526 x13_4) ∧ Aside0 (Kd.R (Kd.int .i64) 3 w' w.heap.size (fun k_ => some k_ ≠ ((.slice Ao27 t496.length co27) : Value).ownBlock) (.slice Ao24 t493.length co24) t493) ∧ Aside0 (Kd.R (Kd.int .i64) 3 w' w.heap.size (fun k_ => some k_ ≠ ((.slice Ao24 t493.length co24) : Value).ownBlock) (.slice Ao27 t496.length co27) t496) ∧ Aside0 (w'.heap[gb486]? = some (.cells #[(.slice A0_0 l0_0.length c0_0), (.slice (some ad521) l0_1.length c0_1), .int .i64 a0_2] 25 (0, 0))) ∧ Aside0 (w'.heap[gb503]? = some (.cells #[(.slice Ao24 t493.length co24), (.slice Ao27 t496.length co27), .int .i64 t499, .int .i64 t500, .int .i64 t501] 30 (0, 0))) ∧ Aside0 (Below w.heap.size w w'))
             case atStart => exact ⟨(t525), (0), (by first | rfl | (simp; done) | (simp [*]; done)), H', ⟨Nat.le_refl _⟩, ⟨by (with_reducible repeat (first | apply Kd.R_alloc | apply Kd.R_drewN | apply Kd.R_drew)); exact Kd.R_mono HO524.out (fun _ hk => hk.2)⟩, ⟨by (with_reducible repeat (first | apply Kd.R_alloc | apply Kd.R_drewN | apply Kd.R_drew)); exact Kd.R_mono HO527.out (fun _ hk => hk.2)⟩, ⟨by (with_reducible repeat (first | apply Kd.R_alloc | apply Kd.R_drewN | apply Kd.R_drew)); exact HO_504000.out⟩, ⟨by (with_reducible repeat (first | apply Kd.R_alloc | apply Kd.R_drewN | apply Kd.R_drew)); exact HO_504001.out⟩, ⟨by apply_rules (transparency := .reducible) only [blk_drewN, blk_drew, blk_alloc, BK486.out]⟩, ⟨by apply_rules (transparency := .reducible) only [blk_drewN, blk_drew, blk_alloc, BK503.out]⟩, ⟨by apply_rules (transparency := .reducible) only [HB.out, below_alloc, pw_below_drewN, below_drew1, below_set, GE486.out, GE503.out]⟩⟩
             case round =>
              clear H'
              (try clear c1); (try clear c2); (try clear p2); (try clear c3); (try clear c4); (try clear p4); (try clear q4); (try clear hx4); (try clear hf4); (try clear c5); (try clear p5); (try clear q5); (try clear hx5); (try clear p6); (try clear c7); (try clear c8); (try clear c10); (try clear c11); (try clear c13); (try clear c14); (try clear c15); (try clear c18); (try clear c19); (try clear c19b0); (try clear c19b1); (try clear c25); (try clear c28); (try clear c28b0); (try clear c29); (try clear c29b0); (try clear c30); (try clear c30b0); (try clear c31); (try clear c35); (try clear c41); (try clear c41b0); (try clear c42); (try clear c42b0); (try clear p43); (try clear q43); (try clear hx43); (try clear hf43); (try clear c47); (try clear c47b0); (try clear c48); (try clear c48b0); (try clear c50); (try clear p50); (try clear q50); (try clear hx50); (try clear c51); (try clear p51); (try clear q51); (try clear hx51); (try clear c52); (try clear p52); (try clear q52); (try clear hx52); (try clear c55); (try clear c55b0); (try clear c56); (try clear c56b0); (try clear c57); (try clear c59); (try clear p64); (try clear hcz11_0); (try clear hcz11_1); (try clear hcz11_2); (try clear hcz20_0); (try clear hcz20_1); (try clear hcz20_2); (try clear hcz26_0); (try clear hcz26_1); (try clear hcz26_2); (try clear hcz26_3); (try clear hcz26_4); (try clear hcz36_0); (try clear hcz36_1); (try clear hcz36_2); (try clear hcz38_0); (try clear hcz38_1); (try clear hcz38_2); (try clear hcz39_0); (try clear hcz39_1); (try clear hcz39_2); (try clear hcz39_3); (try clear hcz39_4); (try clear hcz53_0); (try clear hcz53_1); (try clear hcz53_2); (try clear hcz5_0); (try clear hcz5_1); (try clear hcz5_2); (try clear hcz60_0); (try clear hcz60_1); (try clear hcz60_2); (try clear hcz63_0); (try clear hcz63_1); (try clear hcz63_2); (try clear hcz65_0); (try clear hcz65_1); (try clear hcz65_2); (try clear hcz66_0); (try clear hcz66_1); (try clear hcz66_2); (try clear hcz66_3); (try clear hcz66_4); (try clear hfz11_0)
              (try clear hfz11_1); (try clear hfz11_2); (try clear hfz20_0); (try clear hfz20_1); (try clear hfz20_2); (try clear hfz26_0); (try clear hfz26_1); (try clear hfz26_2); (try clear hfz26_3); (try clear hfz26_4); (try clear hfz36_0); (try clear hfz36_1); (try clear hfz36_2); (try clear hfz38_0); (try clear hfz38_1); (try clear hfz38_2); (try clear hfz39_0); (try clear hfz39_1); (try clear hfz39_2); (try clear hfz39_3); (try clear hfz39_4); (try clear hfz53_0); (try clear hfz53_1); (try clear hfz53_2); (try clear hfz5_0); (try clear hfz5_1); (try clear hfz5_2); (try clear hfz60_0); (try clear hfz60_1); (try clear hfz60_2); (try clear hfz63_0); (try clear hfz63_1); (try clear hfz63_2); (try clear hfz65_0); (try clear hfz65_1); (try clear hfz65_2); (try clear hfz66_0); (try clear hfz66_1); (try clear hfz66_2); (try clear hfz66_3); (try clear hfz66_4); (try clear hx43_0); (try clear hx507_0); (try clear hx507_1); (try clear hx507_2); (try clear hx507_3); (try clear hx507_4); (try clear hx516_0); (try clear hx516_1); (try clear hx516_2); (try clear hx516_3); (try clear hx516_4); (try clear hx521_0); (try clear hx521_1); (try clear hx521_2); (try clear hx521_3); (try clear hx521_4); (try clear p2); (try clear p4); (try clear p43); (try clear p5); (try clear p50); (try clear p507); (try clear p51); (try clear p516); (try clear p521); (try clear p6); (try clear q4); (try clear q43); (try clear q5); (try clear q50); (try clear q507); (try clear q51); (try clear q516); (try clear q521)
              obtain ⟨x13_4, x15_4, rfl, HA, HK4, HO_12, HO_13, HO_504000, HO_504001, BK486, BK503, HB⟩ := hrel
              cases gk with
              | zero => exact absurd HA.out (by simp [splicelaw13_PatchKeeps.l3])
              | succ k4 =>
               have H := HA.out
               clear HA
               simp only [splicelaw13_PatchKeeps.l3] at H
               by_cases c68 : x15_4 < (x13_4.length : Int)
               ·
                rw [if_pos c68] at H
                have c68b0 : decide (x15_4 < (x13_4.length : Int)) = true := decide_eq_true c68
                clear c68
                by_cases c69 : 0 ≤ x15_4
                ·
                 rw [if_pos c69] at H
                 have c69b0 : decide (0 ≤ x15_4) = true := decide_eq_true c69
                 clear c69
                 obtain ⟨y529, hy529⟩ : ∃ y_ : List Int, y_ = (x13_4.set (x15_4 : Int).toNat 7) := ⟨_, rfl⟩
                 (first | rw [Option.bind_some, ← hy529] at H | rw [← hy529] at H | skip)
                 have Ny529 := Aside0.mk hy529
                 clear hy529
                 have H' := Aside0.mk H
                 clear H
                 obtain ⟨Ao71, co71, eo71⟩ := Kd.R_slice HO_13.out
                 subst eo71
                 have p70 : 0 ≤ (x15_4 : Int) := of_decide_eq_true (by first | (with_reducible assumption) | assumption)
                 have q70 : (x15_4 : Int) < ((x13_4.length : Int) : Int) := of_decide_eq_true (by first | (with_reducible assumption) | assumption)
                 obtain ⟨go70, co70, eo70, gb70, gl70, cl70, HG70⟩ := Kd.R_form HO_13.out (by omega)
                 (first | cases eo70 | (injection eo70 with ea_ en_ ec_; (first | subst ea_ | (injection ea_ with ea_; subst ea_)); subst ec_; clear en_))
                 have GB70 := Aside0.mk gb70
                 have GG70 := Aside0.mk HG70
                 clear gb70 gl70 HG70
                 obtain ⟨hx70_0, hf70_0⟩ := Kd.R_celln 0 HO_13.out (x15_4 : Int) p70 q70
                 replace p70 := eq_true p70
                 replace q70 := eq_true q70
                 have HP72 := Kd.R_putg HO_13.out (x15_4 : Int) 7
                 go_wp2_with (first | ((with_reducible refine gate_store (t := 5) (p := 104) rfl ?_); refine store_event (t := 5) (p := 104) (v := ?vo_w73) (w1 := (wr.setCell ⟨go70, (x15_4 : Int).toNat, none⟩ (.int .u8 7))) ?hg ?ho ?hn ?hr ?_; (case ho => rfl); (case hg => rfl); (case hn => rfl); (case hr => first | (go_simp; done) | (go_simp; rfl)); intro w73 hw; have hg : wr.grownBy w73 (some go70) := (by rw [hw]; exact HP72.2); have hp_ : Kd.R (Kd.int .u8) 5 w73 w.heap.size (fun k_ => some k_ ≠ (v523 : Value).ownBlock) (.slice (some ⟨go70, 0, none⟩) x13_4.length co71) y529 := (by rw [hw, Ny529.out]; exact HP72.1); clear HP72; have n0_ := Aside0.mk (Kd.R_after (v := (.slice (some ⟨go70, 0, none⟩) x13_4.length co71)) (v1 := (.slice (some ⟨go70, 0, none⟩) x13_4.length co71)) (ok := (fun _ => True)) (by (with_reducible repeat (first | apply Kd.R_alloc | apply Kd.R_drewN | apply Kd.R_drew)); exact Kd.R_mono HO_12.out (fun _ hk => ⟨trivial, hk⟩)) hg (.inl rfl)); have n1_ := Aside0.mk (hp_); have n2_ := Aside0.mk (Kd.R_over' (v := (.slice (some ⟨go70, 0, none⟩) x13_4.length co71)) (by (with_reducible repeat (first | apply Kd.R_alloc | apply Kd.R_drewN | apply Kd.R_drew)); exact HO_504000.out) (Kd.R_typed HO_13.out) (by decide) hg); have n3_ := Aside0.mk (Kd.R_over' (v := (.slice (some ⟨go70, 0, none⟩) x13_4.length co71)) (by (with_reducible repeat (first | apply Kd.R_alloc | apply Kd.R_drewN | apply Kd.R_drew)); exact HO_504001.out) (Kd.R_typed HO_13.out) (by decide) hg); have n4_ := Aside0.mk (blk_grown (g := gb486) (o := .cells #[.slice A0_0 l0_0.length c0_0, .slice (some ad521) l0_1.length c0_1, .int .i64 a0_2] 25 (0, 0)) (by apply_rules (transparency := .reducible) only [blk_drewN, blk_drew, blk_alloc, BK486.out]) hg (Kd.R_ne HO_13.out BK486.out (by decide))); have n5_ := Aside0.mk (blk_grown (g := gb503) (o := .cells #[.slice Ao24 t493.length co24, .slice Ao27 t496.length co27, .int .i64 t499, .int .i64 t500, .int .i64 t501] 30 (0, 0)) (by apply_rules (transparency := .reducible) only [blk_drewN, blk_drew, blk_alloc, BK503.out]) hg (Kd.R_ne HO_13.out BK503.out (by decide))); have n6_ := Aside0.mk ((by rw [hw]; exact below_set (HB.out) GB70.out : Below w.heap.size w w73)); clear HO_12; clear HO_13; clear HO_504000; clear HO_504001; clear BK486; clear BK503; clear HB; have HO_12 := n0_; have HO_13 := n1_; have HO_504000 := n2_; have HO_504001 := n3_; have BK486 := n4_; have BK503 := n5_; have HB := n6_; clear n0_ n1_ n2_ n3_ n4_ n5_ n6_; clear hg hw hp_))
                 go_roundg k4
                 case measure => have := HJ2.out; have := HK2.out; have := HK3.out; have := HK4.out; omega
                 case rel => exact ⟨(y529), (wrap64 (x15_4 + 1)), (by first | rfl | (simp; done) | (simp [*]; done)), H', ⟨by have := HJ2.out; have := HK2.out; have := HK3.out; have := HK4.out; omega⟩, ⟨by (with_reducible repeat (first | apply Kd.R_alloc | apply Kd.R_drewN | apply Kd.R_drew)); exact Kd.R_mono HO_12.out (fun _ hk => hk.2)⟩, ⟨by (with_reducible repeat (first | apply Kd.R_alloc | apply Kd.R_drewN | apply Kd.R_drew)); exact HO_13.out⟩, ⟨by (with_reducible repeat (first | apply Kd.R_alloc | apply Kd.R_drewN | apply Kd.R_drew)); exact HO_504000.out⟩, ⟨by (with_reducible repeat (first | apply Kd.R_alloc | apply Kd.R_drewN | apply Kd.R_drew)); exact HO_504001.out⟩, ⟨by apply_rules (transparency := .reducible) only [blk_drewN, blk_drew, blk_alloc, BK486.out]⟩, ⟨by apply_rules (transparency := .reducible) only [blk_drewN, blk_drew, blk_alloc, BK503.out]⟩, ⟨by apply_rules (transparency := .reducible) only [HB.out, below_alloc, pw_below_drewN, below_drew1, below_set, GE486.out, GE503.out]⟩⟩
                ·
                 rw [if_neg c69] at H
                 exact absurd H (by simp)
               ·
                rw [if_neg c68] at H
                have c68b0 : decide (x15_4 < (x13_4.length : Int)) = false := decide_eq_false c68
                clear c68
                by_cases c74 : 0 ≤ x11_3
                ·
                 rw [if_pos c74] at H
                 have c74b0 : decide (0 ≤ x11_3) = true := decide_eq_true c74
                 clear c74
                 by_cases c75 : x11_3 < (l0_1.length : Int)
                 ·
                  rw [if_pos c75] at H
                  have c75b0 : decide (x11_3 < (l0_1.length : Int)) = true := decide_eq_true c75
                  clear c75
                  replace H := Option.bind_eq_some_iff.mp H
                  obtain ⟨t531, A760, H⟩ := H
                  try dsimp only at H
                  have A76 := Aside0.mk A760
                  clear A760
                  by_cases c77 : t531 = true
                  ·
                   subst c77
                   rw [if_pos rfl] at H
                   have H' := Aside0.mk H
                   clear H
                   obtain ⟨Ao78, co78, eo78⟩ := Kd.R_slice HO_13.out
                   subst eo78
                   have hnb79 := NB486_503.out
                   have hnc79 := NB503_486.out
                   obtain ⟨hcz80_0, hcz80_1, hcz80_2⟩ := blkc50_3 BK486.out
                   obtain ⟨hfz80_0, hfz80_1, hfz80_2⟩ := blkf50_3 BK486.out
                   have p530 : 0 ≤ (x11_3 : Int) := of_decide_eq_true (by first | (with_reducible assumption) | assumption)
                   have q530 : x11_3 < (l0_1.length : Int) := of_decide_eq_true (by first | (with_reducible assumption) | assumption)
                   obtain ⟨ad530, A530_3, c530_3, A530_4, c530_4, e530, hx530_0, hx530_1, hx530_2, hx530_3, hx530_4, hl530_3, hi530_3, hl530_4, hi530_4⟩ := at_T55 HR0_1.out x11_3 p530 q530
                   obtain rfl : ad521 = ad530 := (by injection e530)
                   replace hx530_0 := (HB.out.cell (World.block_lt_of_cell? w _ hx530_0)).trans hx530_0
                   replace hx530_1 := (HB.out.cell (World.block_lt_of_cell? w _ hx530_1)).trans hx530_1
                   replace hx530_2 := (HB.out.cell (World.block_lt_of_cell? w _ hx530_2)).trans hx530_2
                   replace hx530_3 := (HB.out.cell (World.block_lt_of_cell? w _ hx530_3)).trans hx530_3
                   replace hx530_4 := (HB.out.cell (World.block_lt_of_cell? w _ hx530_4)).trans hx530_4
                   have HR530_3 := Aside0.mk hi530_3
                   have HC530_3 := Aside0.mk hl530_3
                   clear hi530_3 hl530_3
                   have HR530_4 := Aside0.mk hi530_4
                   have HC530_4 := Aside0.mk hl530_4
                   clear hi530_4 hl530_4
                   replace p530 := eq_true p530
                   replace q530 := eq_true q530
                   obtain ⟨Ao81, co81, eo81⟩ := Kd.R_slice HO_12.out
                   subst eo81
                   go_wp2_with (first | ((with_reducible refine gate_callee (f := 16) rfl ?_); refine goesL_ (some 112) rfl rfl Try.func16 (by kernel_rfl) rfl #[.slice A530_3 ((rd_T55 l0_1 x11_3).f3).length c530_3, .slice Ao81 y522.length co81] rfl (by (try simp only [List.map_toArray, List.map_cons, List.map_nil]); first | done | rfl | (simp only [List.length_drop, List.length_take]; rfl)) ?_; (with_reducible refine (spliceref01_Same.calls k4 _ _ ((rd_T55 l0_1 x11_3).f3) _ _ y522 true _ ?side1 ?side2 ?side3 ?side4 A76.out).mono ?_); (case side1 => repeat (first | exact (Kd.C_below HR530_3.out HB.out) | (with_reducible refine Kd.C_alloc ?_ _) | (with_reducible refine Kd.C_drewN ?_ _) | (with_reducible refine Kd.C_drew ?_))); (case side2 => exact HC530_3.out); (case side3 => repeat (first | exact (Kd.R_reads' HO_12.out).2.2 | (with_reducible refine Kd.C_alloc ?_ _) | (with_reducible refine Kd.C_drewN ?_ _) | (with_reducible refine Kd.C_drew ?_))); (case side4 => exact (Kd.R_reads' HO_12.out).2.1); rintro e w' ⟨rfl, ⟨nd, rfl⟩⟩; refine ⟨_, rfl, ?_⟩))
                   go_roundg k4
                   case measure => have := HJ2.out; have := HK2.out; have := HK3.out; have := HK4.out; omega
                   case rel => exact ⟨(wrap64 (x11_3 + 1)), (by first | rfl | (simp; done) | (simp [*]; done)), H', ⟨by have := HJ2.out; have := HK2.out; have := HK3.out; have := HK4.out; omega⟩, ⟨by (with_reducible repeat (first | apply Kd.R_alloc | apply Kd.R_drewN | apply Kd.R_drew)); exact HO_504000.out⟩, ⟨by (with_reducible repeat (first | apply Kd.R_alloc | apply Kd.R_drewN | apply Kd.R_drew)); exact HO_504001.out⟩, ⟨by apply_rules (transparency := .reducible) only [blk_drewN, blk_drew, blk_alloc, BK486.out]⟩, ⟨by apply_rules (transparency := .reducible) only [blk_drewN, blk_drew, blk_alloc, BK503.out]⟩, ⟨by apply_rules (transparency := .reducible) only [HB.out, below_alloc, pw_below_drewN, below_drew1, below_set, GE486.out, GE503.out]⟩⟩
                  ·
                   replace c77 := Bool.eq_false_iff.mpr c77
                   subst c77
                   rw [if_neg Bool.false_ne_true] at H
                   exact absurd H (by simp)
                 ·
                  rw [if_neg c75] at H
                  exact absurd H (by simp)
                ·
                 rw [if_neg c74] at H
                 exact absurd H (by simp)
            ·
             rw [if_neg c57] at H
             exact absurd H (by simp)
           ·
            rw [if_neg c56] at H
            exact absurd H (by simp)
          ·
           rw [if_neg c55] at H
           have c55b0 : decide (x11_3 < (l0_1.length : Int)) = false := decide_eq_false c55
           clear c55
           obtain rfl := Option.some.inj H
           have hnb82 := NB486_503.out
           have hnc82 := NB503_486.out
           obtain ⟨hcz83_0, hcz83_1, hcz83_2⟩ := blkc50_3 BK486.out
           obtain ⟨hfz83_0, hfz83_1, hfz83_2⟩ := blkf50_3 BK486.out
           go_wp2
           go_ret
           exact ⟨by first | rfl | (simp [errW_none, errW_some] <;> rfl) | (simp [*, errW_none, errW_some] <;> rfl), by apply_rules (transparency := .reducible) only [HB.out, below_alloc, pw_below_drewN, below_drew1, below_set, GE486.out, GE503.out]⟩
    ·
     rw [if_neg c19] at H
     have c19b0 : (t502 == 0) = false := beq_eq_false_iff_ne.mpr c19
     have c19b1 : (t502 != 0) = true := bne_iff_ne.mpr c19
     obtain rfl := Option.some.inj H
     obtain ⟨hcz84_0, hcz84_1, hcz84_2⟩ := blkc50_3 BK486.out
     obtain ⟨hfz84_0, hfz84_1, hfz84_2⟩ := blkf50_3 BK486.out
     obtain ⟨Ao85, co85, eo85⟩ := Kd.R_slice HO_3.out
     subst eo85
     go_wp2_with (first | ((with_reducible refine gate_callee (f := 10) rfl ?_); refine goesL_ (some 30) rfl rfl Try.func10 (by kernel_rfl) rfl #[.agg #[.slice A0_0 l0_0.length c0_0, .slice A0_1 l0_1.length c0_1, .int .i64 a0_2], .slice Ao85 t487.length co85] rfl (by (try simp only [List.map_toArray, List.map_cons, List.map_nil]); first | done | rfl | (simp only [List.length_drop, List.length_take]; rfl)) ?_; (with_reducible refine (place_Plan.calls kj2 _ _ l0_0 _ _ l0_1 a0_2 _ _ t487 t493 t496 t499 t500 t501 t502 _ ?side1 ?side2 ?side3 ?side4 ?side5 ?side6 A18.out).mono ?_); (case side1 => repeat (first | exact (Kd.C_below HR0_0.out HB.out) | (with_reducible refine Kd.C_alloc ?_ _) | (with_reducible refine Kd.C_drewN ?_ _) | (with_reducible refine Kd.C_drew ?_))); (case side2 => exact HC0_0.out); (case side3 => repeat (first | exact (Kd.C_below HR0_1.out HB.out) | (with_reducible refine Kd.C_alloc ?_ _) | (with_reducible refine Kd.C_drewN ?_ _) | (with_reducible refine Kd.C_drew ?_))); (case side4 => exact HC0_1.out); (case side5 => repeat (first | exact (Kd.R_reads' HO_3.out).2.2 | (with_reducible refine Kd.C_alloc ?_ _) | (with_reducible refine Kd.C_drewN ?_ _) | (with_reducible refine Kd.C_drew ?_))); (case side6 => exact (Kd.R_reads' HO_3.out).2.1); rintro e w86 ⟨v494, v497, rfl, ho0, ho1, hb⟩; refine ⟨_, rfl, ?_⟩; have n0_ := Aside0.mk (Kd.R_mono (Kd.R_told (Kd.R_told (Kd.R_old (by (with_reducible repeat (first | apply Kd.R_alloc | apply Kd.R_drewN | apply Kd.R_drew)); exact HO_3.out) hb) (Kd.R_base ho0)) (Kd.R_base ho1)) (fun _ h_ => h_.1)); have n1_ := Aside0.mk (Kd.R_lower (Kd.R_new' ho0 (Kd.R_lt (by (with_reducible repeat (first | apply Kd.R_alloc | apply Kd.R_drewN | apply Kd.R_drew)); exact HO_3.out))) (below_size (by apply_rules (transparency := .reducible) only [HB.out, below_alloc, pw_below_drewN, below_drew1, below_set, GE486.out]))); have n2_ := Aside0.mk (Kd.R_lower (Kd.R_new' ho1 (Kd.R_lt (by (with_reducible repeat (first | apply Kd.R_alloc | apply Kd.R_drewN | apply Kd.R_drew)); exact HO_3.out))) (below_size (by apply_rules (transparency := .reducible) only [HB.out, below_alloc, pw_below_drewN, below_drew1, below_set, GE486.out]))); have n3_ := Aside0.mk (blk_below (g := gb486) (o := .cells #[.slice A0_0 l0_0.length c0_0, .slice A0_1 l0_1.length c0_1, .int .i64 a0_2] 25 (0, 0)) (by apply_rules (transparency := .reducible) only [blk_drewN, blk_drew, blk_alloc, BK486.out]) hb); have n4_ := Aside0.mk (below_step (by apply_rules (transparency := .reducible) only [HB.out, below_alloc, pw_below_drewN, below_drew1, below_set, GE486.out]) hb); clear HO_3; clear BK486; clear HB; have HO_3 := n0_; have HO495 := n1_; have HO498 := n2_; have BK486 := n3_; have HB := n4_; clear n0_ n1_ n2_ n3_ n4_; (try clear hb); (try clear hb2); (try clear hk); (try clear hi); (try clear ho0); (try clear ho1)) | ((with_reducible refine gate_dst (N := 4) rfl ?_); refine box_event ?hg (N := 4) ?hd (cs := #[.slice none 0 0, .slice none 0 0, .int .i64 0, .int .i64 0, .int .i64 0]) (t := 30) ?hr ?_; (case hd => rfl); (case hg => rfl); (case hr => first | (go_simp; done) | (go_simp; rfl)); intro gb503 hg w87 hbox hb; have n0_ := Aside0.mk (Kd.R_below (by (with_reducible repeat (first | apply Kd.R_alloc | apply Kd.R_drewN | apply Kd.R_drew)); exact HO_3.out) hb); have n1_ := Aside0.mk (Kd.R_below (by (with_reducible repeat (first | apply Kd.R_alloc | apply Kd.R_drewN | apply Kd.R_drew)); exact HO495.out) hb); have n2_ := Aside0.mk (Kd.R_below (by (with_reducible repeat (first | apply Kd.R_alloc | apply Kd.R_drewN | apply Kd.R_drew)); exact HO498.out) hb); have n3_ := Aside0.mk (blk_below (g := gb486) (o := .cells #[.slice A0_0 l0_0.length c0_0, .slice A0_1 l0_1.length c0_1, .int .i64 a0_2] 25 (0, 0)) (by apply_rules (transparency := .reducible) only [blk_drewN, blk_drew, blk_alloc, BK486.out]) hb); have n4_ := Aside0.mk (below_step (by apply_rules (transparency := .reducible) only [HB.out, below_alloc, pw_below_drewN, below_drew1, below_set, GE486.out]) hb); have n5_ := Aside0.mk (hbox); have n6_ := Aside0.mk ((by rw [hg]; exact (below_size (by apply_rules (transparency := .reducible) only [HB.out, below_alloc, pw_below_drewN, below_drew1, below_set, GE486.out])) : w.heap.size ≤ gb503)); have n7_ := Aside0.mk ((by rw [hg]; exact (below_size (by apply_rules (transparency := .reducible) only [HB.out, below_alloc, pw_below_drewN, below_drew1, below_set, GE486.out])) : w.heap.size ≤ gb503)); have n8_ := Aside0.mk ((by rw [hg]; exact Nat.ne_of_lt (blk_lt (g := gb486) (o := .cells #[.slice A0_0 l0_0.length c0_0, .slice A0_1 l0_1.length c0_1, .int .i64 a0_2] 25 (0, 0)) (by apply_rules (transparency := .reducible) only [blk_drewN, blk_drew, blk_alloc, BK486.out])) : gb486 ≠ gb503)); have n9_ := Aside0.mk ((by rw [hg]; exact Nat.ne_of_gt (blk_lt (g := gb486) (o := .cells #[.slice A0_0 l0_0.length c0_0, .slice A0_1 l0_1.length c0_1, .int .i64 a0_2] 25 (0, 0)) (by apply_rules (transparency := .reducible) only [blk_drewN, blk_drew, blk_alloc, BK486.out])) : gb503 ≠ gb486)); clear HO_3; clear HO495; clear HO498; clear BK486; clear HB; have HO_3 := n0_; have HO495 := n1_; have HO498 := n2_; have BK486 := n3_; have HB := n4_; have BK503 := n5_; have GW503 := n6_; have GE503 := n7_; have NB486_503 := n8_; have NB503_486 := n9_; clear n0_ n1_ n2_ n3_ n4_ n5_ n6_ n7_ n8_ n9_; clear hb hbox hg; obtain ⟨Ao88, co88, eo88⟩ := Kd.R_slice HO495.out; subst eo88; have hnb89 := NB503_486.out; have hnc89 := NB486_503.out; obtain ⟨hcz90_0, hcz90_1, hcz90_2, hcz90_3, hcz90_4⟩ := blkc50_5 BK503.out; obtain ⟨hfz90_0, hfz90_1, hfz90_2, hfz90_3, hfz90_4⟩ := blkf50_5 BK503.out; obtain ⟨Ao91, co91, eo91⟩ := Kd.R_slice HO498.out; subst eo91))
     go_ret
     exact ⟨by first | rfl | (simp [errW_none, errW_some] <;> rfl) | (simp [*, errW_none, errW_some] <;> rfl), by apply_rules (transparency := .reducible) only [HB.out, below_alloc, pw_below_drewN, below_drew1, below_set, GE486.out, GE503.out]⟩

end Go.Proofs.Ytdnfofhfllnhiaa.Q
