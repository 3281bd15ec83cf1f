-- Written by drv.py, a program of this session, over the kit's print, out of the translation. Not trusted: Lean checks it.
import Derived.Test.YtcagccodmmcnfaaQD0
import Derived.Test.YtcagccodmmcnfaaQ53
import Derived.Test.YtcagccodmmcnfaaQB
namespace Go.Proofs.Ytcagccodmmcnfaa.Q
open Go.RowKit Go.Proofs.YtcagccodmmcnfaaW.PrintWords Go.Proofs.YtcagccodmmcnfaaW.PrintLast Go.Proofs.YtcagccodmmcnfaaW.PrintMore
attribute [local go_sem] max2_int min2_int max_two min_two max_three min_three max_four min_four   -- for this text's walks alone
set_option linter.unusedVariables false
set_option linter.unusedSimpArgs false

theorem blkc55_2 {w : World} {g : Nat} {t : TypeId} {v0 v1 : Value} (h : w.heap[g]? = some (.cells #[v0, v1] t (0, 0))) : w.cell? ⟨g, 0, none⟩ = some v0 ∧ w.cell? ⟨g, 1, none⟩ = some v1 := ⟨(blk_cell h 0).trans rfl, (blk_cell h 1).trans rfl⟩
theorem blkf55_2 {w : World} {g : Nat} {t : TypeId} {cs : Array Value} (h : w.heap[g]? = some (.cells cs t (0, 0))) : w.frozen? ⟨g, 0, none⟩ = false ∧ w.frozen? ⟨g, 1, none⟩ = false := ⟨blk_frozen h 0, blk_frozen h 1⟩
set_option maxHeartbeats 8000000 in
set_option maxRecDepth 100000 in
theorem spliceref05_Load.calls (k : Nat) (a0_0 : Int) (A0_1 : Option Addr) (c0_1 : Nat) (l0_1 : List Int) (a1 : Int) (a2 : Bool) (r1 : Int) (r2 : Bool) (w : World) (hr0_1 : Kd.C (Kd.int .u8) w A0_1 l0_1.length l0_1) (hc0_1 : l0_1.length ≤ c0_1) (h : spliceref05_Load.f k a0_0 l0_1 a1 a2 = some (r1, r2)) :
    Calls Try.prog 25 #[.agg #[.int .i64 a0_0, .slice A0_1 l0_1.length c0_1], .int .u32 a1, .bool a2] w fun e w' => e = .returned (.tuple #[.int .u32 r1, .bool r2]) ∧ Below w.heap.size w w' := by
 have hu35 := Try.underlying35
 have HR0_1 := Aside0.mk hr0_1
 have HC0_1 := Aside0.mk hc0_1
 clear hr0_1 hc0_1
 have HB := Aside0.mk (Below.refl w.heap.size w)
 have H : ((spliceref05_There.f a0_0 l0_1 (wrap64 (a1))).bind fun t307 => (if t307 = true then (if a2 = true then (if (Int.tmod (wrap64 (a1)) 4) = 0 then ((spliceref05_There.f a0_0 l0_1 (wrap64 ((wrap64 (a1)) + 3))).bind fun t308 => (spliceref05_Load.j0 k a2 (wrap64 (a1)) (!t308) a0_0 l0_1)) else (spliceref05_Load.j0 k a2 (wrap64 (a1)) true a0_0 l0_1)) else (spliceref05_Load.j0 k a2 (wrap64 (a1)) false a0_0 l0_1)) else (spliceref05_Load.j0 k a2 (wrap64 (a1)) true a0_0 l0_1))) = some (r1, r2) := h
 clear h
 have HC4 := Aside0.mk H
 clear H
 go_enter Try.func25, Try.ntmps25
 go_upto_region 2 with (first | ((with_reducible refine gate_dst (N := 3) rfl ?_); refine box_event ?hg (N := 3) ?hd (cs := #[.int .i64 a0_0, .slice A0_1 l0_1.length c0_1]) (t := 35) ?hr ?_; (case hd => rfl); (case hg => rfl); (case hr => first | (go_simp; done) | (go_simp; rfl)); intro gb306 hg w5 hbox hb; have n0_ := Aside0.mk (below_step (by apply_rules (transparency := .reducible) only [HB.out, below_alloc, pw_below_drewN, below_drew1]) hb); have n1_ := Aside0.mk (hbox); have n2_ := Aside0.mk ((by rw [hg]; exact (below_size (by apply_rules (transparency := .reducible) only [HB.out, below_alloc, pw_below_drewN, below_drew1])) : w.heap.size ≤ gb306)); have n3_ := Aside0.mk ((by rw [hg]; exact (below_size (by apply_rules (transparency := .reducible) only [HB.out, below_alloc, pw_below_drewN, below_drew1])) : w.heap.size ≤ gb306)); clear HB; have HB := n0_; have BK306 := n1_; have GW306 := n2_; have GE306 := n3_; clear n0_ n1_ n2_ n3_; clear hb hbox hg))
 (try simp only [Act.put, List.setIfInBounds_toArray, List.set_cons_zero, List.set_cons_succ])
 go_cut [29] (fun v29 wc => ∃ (kq : Nat) (x29_3 : Bool), v29 = .bool x29_3 ∧ Aside0 (spliceref05_Load.j0 kq a2 (wrap64 (a1)) x29_3 a0_0 l0_1 = some (r1, r2)) ∧ Aside0 (kq ≤ k) ∧ Aside0 (wc.heap[gb306]? = some (.cells #[.int .i64 a0_0, (.slice A0_1 l0_1.length c0_1)] 35 (0, 0))) ∧ Aside0 (Below w.heap.size w wc))
 case first =>
  have H := HC4.out
  clear HC4
  replace H := Option.bind_eq_some_iff.mp H
  obtain ⟨t307, A60, H⟩ := H
  try dsimp only at H
  have A6 := Aside0.mk A60
  clear A60
  by_cases c7 : t307 = true
  ·
   subst c7
   rw [if_pos rfl] at H
   by_cases c8 : a2 = true
   ·
    subst c8
    rw [if_pos rfl] at H
    by_cases c9 : (Int.tmod (wrap64 (a1)) 4) = 0
    ·
     rw [if_pos c9] at H
     have c9b0 : ((Int.tmod (wrap64 (a1)) 4) == 0) = true := beq_iff_eq.mpr c9
     have c9b1 : ((Int.tmod (wrap64 (a1)) 4) != 0) = false := bne_eq_false_iff_eq.mpr c9
     clear c9
     (first | (generalize hb_ : ((Int.tmod (wrap64 (a1)) 4) == 0) = bb_ at *; subst c9b0; have c9b0 := hb_; clear hb_) | rw [c9b0] | (simp only [i64_w, i32_w]; rw [c9b0]) | skip)
     replace H := Option.bind_eq_some_iff.mp H
     obtain ⟨t308, A100, H⟩ := H
     try dsimp only at H
     have A10 := Aside0.mk A100
     clear A100
     have H' := Aside0.mk H
     clear H
     obtain ⟨hcz11_0, hcz11_1⟩ := blkc55_2 BK306.out
     obtain ⟨hfz11_0, hfz11_1⟩ := blkf55_2 BK306.out
     go_wp2_with (first | ((with_reducible refine gate_callee (f := 39) rfl ?_); refine goesL_ (some 13) rfl rfl Try.func39 (by kernel_rfl) rfl #[.agg #[.int .i64 a0_0, .slice A0_1 l0_1.length c0_1], .int .i64 (wrap64 (a1))] rfl (by (try simp only [List.map_toArray, List.map_cons, List.map_nil]); first | done | rfl | (simp only [List.length_drop, List.length_take]; rfl)) ?_; (with_reducible refine (spliceref05_There.calls a0_0 _ _ l0_1 (wrap64 (a1)) true _ ?side1 ?side2 A6.out).mono ?_); (case side1 => repeat (first | exact (Kd.C_below HR0_1.out HB.out) | (with_reducible refine Kd.C_alloc ?_ _) | (with_reducible refine Kd.C_drewN ?_ _) | (with_reducible refine Kd.C_drew ?_))); (case side2 => exact HC0_1.out); rintro e w12 ⟨rfl, hb⟩; refine ⟨_, rfl, ?_⟩; have n0_ := Aside0.mk (blk_below (g := gb306) (o := .cells #[.int .i64 a0_0, .slice A0_1 l0_1.length c0_1] 35 (0, 0)) (by apply_rules (transparency := .reducible) only [blk_drewN, blk_drew, blk_alloc, BK306.out]) hb); have n1_ := Aside0.mk (below_step (by apply_rules (transparency := .reducible) only [HB.out, below_alloc, pw_below_drewN, below_drew1, below_set, GE306.out]) hb); clear BK306; clear HB; have BK306 := n0_; have HB := n1_; clear n0_ n1_; (try clear hb); (try clear hb2); (try clear hk); (try clear hi); obtain ⟨hcz13_0, hcz13_1⟩ := blkc55_2 BK306.out; obtain ⟨hfz13_0, hfz13_1⟩ := blkf55_2 BK306.out) | (go_at_call 39; (with_reducible refine (spliceref05_There.calls a0_0 _ _ l0_1 (wrap64 ((wrap64 (a1)) + 3)) t308 _ ?side1 ?side2 A10.out).mono ?_); (case side1 => repeat (first | exact (Kd.C_below HR0_1.out HB.out) | (with_reducible refine Kd.C_alloc ?_ _) | (with_reducible refine Kd.C_drewN ?_ _) | (with_reducible refine Kd.C_drew ?_))); (case side2 => exact HC0_1.out); rintro e w14 ⟨rfl, hb⟩; have n0_ := Aside0.mk (blk_below (g := gb306) (o := .cells #[.int .i64 a0_0, .slice A0_1 l0_1.length c0_1] 35 (0, 0)) (by apply_rules (transparency := .reducible) only [blk_drewN, blk_drew, blk_alloc, BK306.out]) hb); have n1_ := Aside0.mk (below_step (by apply_rules (transparency := .reducible) only [HB.out, below_alloc, pw_below_drewN, below_drew1, below_set, GE306.out]) hb); clear BK306; clear HB; have BK306 := n0_; have HB := n1_; clear n0_ n1_; (try clear hb); (try clear hb2); (try clear hk); (try clear hi)))
     go_meet
     case rel => exact ⟨_, (!t308), (by first | rfl | (simp; done) | (simp [*]; done)), H', ⟨by first | omega | exact Nat.le_refl _⟩, ⟨by apply_rules (transparency := .reducible) only [blk_drewN, blk_drew, blk_alloc, BK306.out]⟩, ⟨by apply_rules (transparency := .reducible) only [HB.out, below_alloc, pw_below_drewN, below_drew1, below_set, GE306.out]⟩⟩
    ·
     rw [if_neg c9] at H
     have c9b0 : ((Int.tmod (wrap64 (a1)) 4) == 0) = false := beq_eq_false_iff_ne.mpr c9
     have c9b1 : ((Int.tmod (wrap64 (a1)) 4) != 0) = true := bne_iff_ne.mpr c9
     (first | (generalize hb_ : ((Int.tmod (wrap64 (a1)) 4) == 0) = bb_ at *; subst c9b0; have c9b0 := hb_; clear hb_) | rw [c9b0] | (simp only [i64_w, i32_w]; rw [c9b0]) | skip)
     have H' := Aside0.mk H
     clear H
     obtain ⟨hcz15_0, hcz15_1⟩ := blkc55_2 BK306.out
     obtain ⟨hfz15_0, hfz15_1⟩ := blkf55_2 BK306.out
     go_wp2_with (first | ((with_reducible refine gate_callee (f := 39) rfl ?_); refine goesL_ (some 13) rfl rfl Try.func39 (by kernel_rfl) rfl #[.agg #[.int .i64 a0_0, .slice A0_1 l0_1.length c0_1], .int .i64 (wrap64 (a1))] rfl (by (try simp only [List.map_toArray, List.map_cons, List.map_nil]); first | done | rfl | (simp only [List.length_drop, List.length_take]; rfl)) ?_; (with_reducible refine (spliceref05_There.calls a0_0 _ _ l0_1 (wrap64 (a1)) true _ ?side1 ?side2 A6.out).mono ?_); (case side1 => repeat (first | exact (Kd.C_below HR0_1.out HB.out) | (with_reducible refine Kd.C_alloc ?_ _) | (with_reducible refine Kd.C_drewN ?_ _) | (with_reducible refine Kd.C_drew ?_))); (case side2 => exact HC0_1.out); rintro e w16 ⟨rfl, hb⟩; refine ⟨_, rfl, ?_⟩; have n0_ := Aside0.mk (blk_below (g := gb306) (o := .cells #[.int .i64 a0_0, .slice A0_1 l0_1.length c0_1] 35 (0, 0)) (by apply_rules (transparency := .reducible) only [blk_drewN, blk_drew, blk_alloc, BK306.out]) hb); have n1_ := Aside0.mk (below_step (by apply_rules (transparency := .reducible) only [HB.out, below_alloc, pw_below_drewN, below_drew1, below_set, GE306.out]) hb); clear BK306; clear HB; have BK306 := n0_; have HB := n1_; clear n0_ n1_; (try clear hb); (try clear hb2); (try clear hk); (try clear hi)))
     go_meet
     case rel => exact ⟨_, (true), (by first | rfl | (simp; done) | (simp [*]; done)), H', ⟨by first | omega | exact Nat.le_refl _⟩, ⟨by apply_rules (transparency := .reducible) only [blk_drewN, blk_drew, blk_alloc, BK306.out]⟩, ⟨by apply_rules (transparency := .reducible) only [HB.out, below_alloc, pw_below_drewN, below_drew1, below_set, GE306.out]⟩⟩
   ·
    replace c8 := Bool.eq_false_iff.mpr c8
    subst c8
    rw [if_neg Bool.false_ne_true] at H
    have H' := Aside0.mk H
    clear H
    obtain ⟨hcz17_0, hcz17_1⟩ := blkc55_2 BK306.out
    obtain ⟨hfz17_0, hfz17_1⟩ := blkf55_2 BK306.out
    go_wp2_with (first | ((with_reducible refine gate_callee (f := 39) rfl ?_); refine goesL_ (some 13) rfl rfl Try.func39 (by kernel_rfl) rfl #[.agg #[.int .i64 a0_0, .slice A0_1 l0_1.length c0_1], .int .i64 (wrap64 (a1))] rfl (by (try simp only [List.map_toArray, List.map_cons, List.map_nil]); first | done | rfl | (simp only [List.length_drop, List.length_take]; rfl)) ?_; (with_reducible refine (spliceref05_There.calls a0_0 _ _ l0_1 (wrap64 (a1)) true _ ?side1 ?side2 A6.out).mono ?_); (case side1 => repeat (first | exact (Kd.C_below HR0_1.out HB.out) | (with_reducible refine Kd.C_alloc ?_ _) | (with_reducible refine Kd.C_drewN ?_ _) | (with_reducible refine Kd.C_drew ?_))); (case side2 => exact HC0_1.out); rintro e w18 ⟨rfl, hb⟩; refine ⟨_, rfl, ?_⟩; have n0_ := Aside0.mk (blk_below (g := gb306) (o := .cells #[.int .i64 a0_0, .slice A0_1 l0_1.length c0_1] 35 (0, 0)) (by apply_rules (transparency := .reducible) only [blk_drewN, blk_drew, blk_alloc, BK306.out]) hb); have n1_ := Aside0.mk (below_step (by apply_rules (transparency := .reducible) only [HB.out, below_alloc, pw_below_drewN, below_drew1, below_set, GE306.out]) hb); clear BK306; clear HB; have BK306 := n0_; have HB := n1_; clear n0_ n1_; (try clear hb); (try clear hb2); (try clear hk); (try clear hi)))
    go_meet
    case rel => exact ⟨_, (false), (by first | rfl | (simp; done) | (simp [*]; done)), H', ⟨by first | omega | exact Nat.le_refl _⟩, ⟨by apply_rules (transparency := .reducible) only [blk_drewN, blk_drew, blk_alloc, BK306.out]⟩, ⟨by apply_rules (transparency := .reducible) only [HB.out, below_alloc, pw_below_drewN, below_drew1, below_set, GE306.out]⟩⟩
  ·
   replace c7 := Bool.eq_false_iff.mpr c7
   subst c7
   rw [if_neg Bool.false_ne_true] at H
   have H' := Aside0.mk H
   clear H
   obtain ⟨hcz19_0, hcz19_1⟩ := blkc55_2 BK306.out
   obtain ⟨hfz19_0, hfz19_1⟩ := blkf55_2 BK306.out
   go_wp2_with (first | ((with_reducible refine gate_callee (f := 39) rfl ?_); refine goesL_ (some 13) rfl rfl Try.func39 (by kernel_rfl) rfl #[.agg #[.int .i64 a0_0, .slice A0_1 l0_1.length c0_1], .int .i64 (wrap64 (a1))] rfl (by (try simp only [List.map_toArray, List.map_cons, List.map_nil]); first | done | rfl | (simp only [List.length_drop, List.length_take]; rfl)) ?_; (with_reducible refine (spliceref05_There.calls a0_0 _ _ l0_1 (wrap64 (a1)) false _ ?side1 ?side2 A6.out).mono ?_); (case side1 => repeat (first | exact (Kd.C_below HR0_1.out HB.out) | (with_reducible refine Kd.C_alloc ?_ _) | (with_reducible refine Kd.C_drewN ?_ _) | (with_reducible refine Kd.C_drew ?_))); (case side2 => exact HC0_1.out); rintro e w20 ⟨rfl, hb⟩; refine ⟨_, rfl, ?_⟩; have n0_ := Aside0.mk (blk_below (g := gb306) (o := .cells #[.int .i64 a0_0, .slice A0_1 l0_1.length c0_1] 35 (0, 0)) (by apply_rules (transparency := .reducible) only [blk_drewN, blk_drew, blk_alloc, BK306.out]) hb); have n1_ := Aside0.mk (below_step (by apply_rules (transparency := .reducible) only [HB.out, below_alloc, pw_below_drewN, below_drew1, below_set, GE306.out]) hb); clear BK306; clear HB; have BK306 := n0_; have HB := n1_; clear n0_ n1_; (try clear hb); (try clear hb2); (try clear hk); (try clear hi)))
   go_meet
   case rel => exact ⟨_, (true), (by first | rfl | (simp; done) | (simp [*]; done)), H', ⟨by first | omega | exact Nat.le_refl _⟩, ⟨by apply_rules (transparency := .reducible) only [blk_drewN, blk_drew, blk_alloc, BK306.out]⟩, ⟨by apply_rules (transparency := .reducible) only [HB.out, below_alloc, pw_below_drewN, below_drew1, below_set, GE306.out]⟩⟩
 case rest =>
  clear HC4
  (try clear c2); (try clear p2); (try clear c3); (try clear p6); (try clear c7); (try clear c8); (try clear c9); (try clear c9b0); (try clear c9b1); (try clear hcz11_0); (try clear hcz11_1); (try clear hcz13_0); (try clear hcz13_1); (try clear hcz15_0); (try clear hcz15_1); (try clear hcz17_0); (try clear hcz17_1); (try clear hcz19_0); (try clear hcz19_1); (try clear hfz11_0); (try clear hfz11_1); (try clear hfz13_0); (try clear hfz13_1); (try clear hfz15_0); (try clear hfz15_1); (try clear hfz17_0); (try clear hfz17_1); (try clear hfz19_0); (try clear hfz19_1)
  obtain ⟨kq, x29_3, rfl, HA, HJ3, BK306, HB⟩ := hcut
  cases kq with
  | zero => exact absurd HA.out (by simp [spliceref05_Load.j0])
  | succ kj3 =>
   have H := HA.out
   clear HA
   simp only [spliceref05_Load.j0] at H
   by_cases c21 : x29_3 = true
   ·
    subst c21
    have H1 : (some (0, false)) = some (r1, r2) := by rw [if_pos rfl] at H; exact H
    clear H
    have H := H1
    clear H1
    simp only [Option.some.injEq, Prod.mk.injEq] at H
    obtain ⟨rfl, rfl⟩ := H
    go_wp2
    go_ret2
    exact ⟨by first | rfl | (simp [errW_none, errW_some] <;> rfl) | (simp [*, errW_none, errW_some] <;> rfl), by apply_rules (transparency := .reducible) only [HB.out, below_alloc, pw_below_drewN, below_drew1, below_set, GE306.out]⟩
   ·
    replace c21 := Bool.eq_false_iff.mpr c21
    subst c21
    rw [if_neg Bool.false_ne_true] at H
    by_cases c22 : a2 = true
    ·
     subst c22
     rw [if_pos rfl] at H
     obtain ⟨ji23, hji23⟩ : ∃ j_ : Int, (wrap64 ((wrap64 (a1)) - 65536)) = j_ := ⟨_, rfl⟩
     replace H : (if 0 ≤ (ji23) then (if (ji23) ≤ (wrap64 ((ji23) + 4)) then (if (wrap64 ((ji23) + 4)) ≤ (l0_1.length : Int) then ((spliceref01_Get.f kj3 ((l0_1.take ((wrap64 ((ji23) + 4)) : Int).toNat).drop ((ji23) : Int).toNat)).bind fun t310 => (some (t310, true))) else (none)) else (none)) else (none)) = some (r1, r2) := by first | (rw [hji23] at H; exact H) | (simp only [hji23] at H ⊢; exact H)
     have hji23w : (IntKind.i64.wrap ((wrap64 (a1)) - 65536)) = ji23 := (i64_w _).trans hji23
     by_cases c24 : 0 ≤ (ji23)
     case neg =>
      rw [if_neg c24] at H
      exact absurd H (by simp)
     rw [if_pos c24] at H
     have c24b0 := eq_true c24
     have c24b1 : decide (0 ≤ (ji23)) = true := decide_eq_true c24
     clear c24
     by_cases c25 : (ji23) ≤ (wrap64 ((ji23) + 4))
     case neg =>
      rw [if_neg c25] at H
      exact absurd H (by simp)
     rw [if_pos c25] at H
     have c25b0 := eq_true c25
     have c25b1 : decide ((ji23) ≤ (wrap64 ((ji23) + 4))) = true := decide_eq_true c25
     by_cases c26 : (wrap64 ((ji23) + 4)) ≤ (l0_1.length : Int)
     case neg =>
      rw [if_neg c26] at H
      exact absurd H (by simp)
     rw [if_pos c26] at H
     have c26b0 := eq_true c26
     have c26b1 : decide ((wrap64 ((ji23) + 4)) ≤ (l0_1.length : Int)) = true := decide_eq_true c26
     replace H := Option.bind_eq_some_iff.mp H
     obtain ⟨t310, A270, H⟩ := H
     replace H : (some (t310, true)) = some (r1, r2) := H
     have A27 := Aside0.mk A270
     clear A270
     simp only [Option.some.injEq, Prod.mk.injEq] at H
     obtain ⟨rfl, rfl⟩ := H
     obtain ⟨hcz28_0, hcz28_1⟩ := blkc55_2 BK306.out
     obtain ⟨hfz28_0, hfz28_1⟩ := blkf55_2 BK306.out
     obtain ⟨i029, hi029, _, hsz29, _⟩ := info_parts info5
     obtain ⟨A29, hcut29, hA29, hC29⟩ := print_mid_of (P := Try.prog) (Value.int .u8) 0 23 5 .i64 .i64 Try.underlying23 hi029 hsz29 A0_1 c0_1 l0_1 (ji23) (wrap64 ((ji23) + 4)) (of_decide_eq_true (by first | (with_reducible assumption) | assumption)) (by first | omega | exact of_decide_eq_true (by first | (with_reducible assumption) | assumption)) (of_decide_eq_true (by first | (with_reducible assumption) | assumption)) HC0_1.out
     have HR309 := Aside0.mk (Kd.C_of_reads (h1 := fun _ => rfl) (hA29 _ (Kd.reads_of_C HR0_1.out)))
     have HC309 := Aside0.mk hC29
     clear hA29 hC29 hi029 hsz29
     go_wp2_with (first | ((with_reducible refine gate_callee (f := 40) rfl ?_); refine goesL_ (some 47) rfl rfl Try.func40 (by kernel_rfl) rfl #[.slice A29 ((l0_1.take ((wrap64 ((ji23) + 4)) : Int).toNat).drop ((ji23) : Int).toNat).length (c0_1 - (ji23).toNat)] rfl (by (try simp only [List.map_toArray, List.map_cons, List.map_nil]); first | done | (rw [show ((l0_1.take ((wrap64 ((ji23) + 4)) : Int).toNat).drop ((ji23) : Int).toNat).length = ((wrap64 ((ji23) + 4)).toNat - (ji23).toNat) from (by rw [List.length_drop, List.length_take]; have h_ : ((wrap64 ((ji23) + 4)) : Int) ≤ (l0_1.length : Int) := of_decide_eq_true (by first | (with_reducible assumption) | assumption); omega)] <;> rfl) | (simp only [hji23]; rfl) | rfl | (simp only [List.length_drop, List.length_take]; rfl)) ?_; (with_reducible refine (spliceref01_Get.calls kj3 _ _ ((l0_1.take ((wrap64 ((ji23) + 4)) : Int).toNat).drop ((ji23) : Int).toNat) t310 _ ?side1 ?side2 A27.out).mono ?_); (case side1 => repeat (first | exact (Kd.C_below HR309.out HB.out) | (with_reducible refine Kd.C_alloc ?_ _) | (with_reducible refine Kd.C_drewN ?_ _) | (with_reducible refine Kd.C_drew ?_))); (case side2 => exact HC309.out); rintro e w' ⟨rfl, ⟨nd, rfl⟩⟩; refine ⟨_, rfl, ?_⟩))
     go_ret2
     exact ⟨by first | rfl | (simp [errW_none, errW_some] <;> rfl) | (simp only [← hji23]; first | rfl | (simp [errW_none, errW_some] <;> rfl)) | (simp [*, errW_none, errW_some] <;> rfl), by apply_rules (transparency := .reducible) only [HB.out, below_alloc, pw_below_drewN, below_drew1, below_set, GE306.out]⟩
    ·
     replace c22 := Bool.eq_false_iff.mpr c22
     subst c22
     rw [if_neg Bool.false_ne_true] at H
     obtain ⟨ji30, hji30⟩ : ∃ j_ : Int, (wrap64 ((wrap64 (a1)) - 65536)) = j_ := ⟨_, rfl⟩
     replace H : (if 0 ≤ (ji30) then (if (ji30) < (l0_1.length : Int) then (some ((rd l0_1 (ji30)) % 4294967296, true)) else (none)) else (none)) = some (r1, r2) := by first | (rw [hji30] at H; exact H) | (simp only [hji30] at H ⊢; exact H)
     have hji30w : (IntKind.i64.wrap ((wrap64 (a1)) - 65536)) = ji30 := (i64_w _).trans hji30
     by_cases c31 : 0 ≤ (ji30)
     case neg =>
      rw [if_neg c31] at H
      exact absurd H (by simp)

     rw [if_pos c31] at H
     have c31b0 : decide (0 ≤ (ji30)) = true := decide_eq_true c31
     clear c31
     by_cases c32 : (ji30) < (l0_1.length : Int)
     case neg =>
      rw [if_neg c32] at H
      exact absurd H (by simp)
     rw [if_pos c32] at H
     have c32b0 : decide ((ji30) < (l0_1.length : Int)) = true := decide_eq_true c32
     clear c32
     simp only [Option.some.injEq, Prod.mk.injEq] at H
     obtain ⟨rfl, rfl⟩ := H
     obtain ⟨hcz33_0, hcz33_1⟩ := blkc55_2 BK306.out
     obtain ⟨hfz33_0, hfz33_1⟩ := blkf55_2 BK306.out
     have p311 : 0 ≤ ((ji30) : Int) := of_decide_eq_true (by first | (with_reducible assumption) | assumption)
     have q311 : (ji30) < (l0_1.length : Int) := of_decide_eq_true (by first | (with_reducible assumption) | assumption)
     obtain ⟨ad311, e311, hx311_0⟩ := Kd.at_int HR0_1.out (ji30) p311 q311
     cases e311
     replace hx311_0 := (HB.out.cell (World.block_lt_of_cell? w _ hx311_0)).trans hx311_0
     replace p311 := eq_true p311
     replace q311 := eq_true q311
     go_wp2
     go_ret2
     exact ⟨by first | rfl | (simp [errW_none, errW_some] <;> rfl) | (simp only [← hji30]; first | rfl | (simp [errW_none, errW_some] <;> rfl)) | (simp [*, errW_none, errW_some] <;> rfl), by apply_rules (transparency := .reducible) only [HB.out, below_alloc, pw_below_drewN, below_drew1, below_set, GE306.out]⟩
end Go.Proofs.Ytcagccodmmcnfaa.Q
