-- Written by drv.py, a program of this session, over the kit's print, out of the translation. Not trusted: Lean checks it.
import Derived.Test.YtdnfofhfllnhiaaQLD
import Derived.Test.YtdnfofhfllnhiaaQD0
import Derived.Test.YtdnfofhfllnhiaaQB
namespace Go.Proofs.Ytdnfofhfllnhiaa.Q
open Go.RowKit Go.Proofs.YtdnfofhfllnhiaaW.PrintWords Go.Proofs.YtdnfofhfllnhiaaW.PrintLast Go.Proofs.YtdnfofhfllnhiaaW.PrintMore
attribute [local go_sem] max2_int min2_int max_two min_two max_three min_three max_four min_four   -- for this text's walks alone
set_option linter.unusedVariables false
set_option linter.unusedSimpArgs false

def spliceref13_Data.T8 : Bool × List (List Nat × List Nat) := (true, [([], []), ([0], [0]), ([], []), ([2], [2]), ([1, 3], [1, 3]), ([4], [4]), ([5], [5]), ([], []), ([7], [7]), ([6, 8], [6, 8]), ([9, 0, 1, 2, 3, 4, 5, 6, 7, 8, 9], [9])])
def spliceref13_Data.B8 : List Nat := [0, 1, 0, 4, 15, 31, 63, 0, 128, 511, 1023]
theorem blkc44_3 {w : World} {g : Nat} {t : TypeId} {v0 v1 v2 : Value} (h : w.heap[g]? = some (.cells #[v0, v1, v2] t (0, 0))) : w.cell? ⟨g, 0, none⟩ = some v0 ∧ w.cell? ⟨g, 1, none⟩ = some v1 ∧ w.cell? ⟨g, 2, none⟩ = some v2 := ⟨(blk_cell h 0).trans rfl, (blk_cell h 1).trans rfl, (blk_cell h 2).trans rfl⟩
theorem blkc44_4 {w : World} {g : Nat} {t : TypeId} {v0 v1 v2 v3 : Value} (h : w.heap[g]? = some (.cells #[v0, v1, v2, v3] t (0, 0))) : w.cell? ⟨g, 0, none⟩ = some v0 ∧ w.cell? ⟨g, 1, none⟩ = some v1 ∧ w.cell? ⟨g, 2, none⟩ = some v2 ∧ w.cell? ⟨g, 3, none⟩ = some v3 := ⟨(blk_cell h 0).trans rfl, (blk_cell h 1).trans rfl, (blk_cell h 2).trans rfl, (blk_cell h 3).trans rfl⟩
theorem blkf44_3 {w : World} {g : Nat} {t : TypeId} {cs : Array Value} (h : w.heap[g]? = some (.cells cs t (0, 0))) : w.frozen? ⟨g, 0, none⟩ = false ∧ w.frozen? ⟨g, 1, none⟩ = false ∧ w.frozen? ⟨g, 2, none⟩ = false := ⟨blk_frozen h 0, blk_frozen h 1, blk_frozen h 2⟩
theorem blkf44_4 {w : World} {g : Nat} {t : TypeId} {cs : Array Value} (h : w.heap[g]? = some (.cells cs t (0, 0))) : w.frozen? ⟨g, 0, none⟩ = false ∧ w.frozen? ⟨g, 1, none⟩ = false ∧ w.frozen? ⟨g, 2, none⟩ = false ∧ w.frozen? ⟨g, 3, none⟩ = false := ⟨blk_frozen h 0, blk_frozen h 1, blk_frozen h 2, blk_frozen h 3⟩
theorem spliceref13_Data.tab8 : rtab .any (opsOf Try.f15 8) = spliceref13_Data.T8 := by kernel_rfl
theorem spliceref13_Data.bits8 : waitsOk spliceref13_Data.T8.2 spliceref13_Data.B8 = true := by kernel_rfl
def spliceref13_Data.T15 : Bool × List (List Nat × List Nat) := (true, [([], []), ([], []), ([1], [1]), ([], []), ([2, 3], [2, 3]), ([], []), ([], []), ([5, 6], [5, 6]), ([7], [7]), ([0, 4, 0, 1, 2, 3, 4, 5, 6, 7, 8], [0, 4]), ([9, 8, 0, 1, 2, 3, 4, 5, 6, 7, 8], [8, 9])])
def spliceref13_Data.B15 : List Nat := [0, 0, 2, 0, 14, 0, 0, 96, 224, 511, 1023]
theorem spliceref13_Data.tab15 : rtab .any (opsOf Try.f15 15) = spliceref13_Data.T15 := by kernel_rfl
theorem spliceref13_Data.bits15 : waitsOk spliceref13_Data.T15.2 spliceref13_Data.B15 = true := by kernel_rfl
set_option maxHeartbeats 8000000 in
set_option maxRecDepth 100000 in
theorem spliceref13_Data.calls (k : Nat) (A0_0 : Option Addr) (c0_0 : Nat) (l0_0 : List (S44)) (A0_1 : Option Addr) (c0_1 : Nat) (l0_1 : List (S55)) (a0_2 : Int) (A1_0 : Option Addr) (c1_0 : Nat) (l1_0 : List Int) (A1_1 : Option Addr) (c1_1 : Nat) (l1_1 : List Int) (a1_2 : Int) (a1_3 : Int) (a1_4 : Int) (a2 : Int) (r1 : List Int) (r2 : Int) (w : World) (hr0_0 : Kd.C k44 w A0_0 l0_0.length l0_0) (hc0_0 : l0_0.length ≤ c0_0) (hr0_1 : Kd.C k55 w A0_1 l0_1.length l0_1) (hc0_1 : l0_1.length ≤ c0_1) (hr1_0 : Kd.C (Kd.int .i64) w A1_0 l1_0.length l1_0) (hc1_0 : l1_0.length ≤ c1_0) (hr1_1 : Kd.C (Kd.int .i64) w A1_1 l1_1.length l1_1) (hc1_1 : l1_1.length ≤ c1_1) (h : spliceref13_Data.f k l0_0 l0_1 a0_2 l1_0 l1_1 a1_2 a1_3 a1_4 a2 = some (r1, r2)) :
    Calls Try.prog 15 #[.agg #[.slice A0_0 l0_0.length c0_0, .slice A0_1 l0_1.length c0_1, .int .i64 a0_2], .agg #[.slice A1_0 l1_0.length c1_0, .slice A1_1 l1_1.length c1_1, .int .i64 a1_2, .int .i64 a1_3, .int .i64 a1_4], .int .i64 a2] w fun e w' => ∃ v0_ : Value, e = .returned (.tuple #[v0_, .int .i64 r2]) ∧ Kd.R (Kd.int .u8) 5 w' w.heap.size (fun _ => True) v0_ r1 ∧ Below w.heap.size w w' := by
 have hu25 := Try.underlying25
 have hu30 := Try.underlying30
 have hu46 := Try.underlying46
 have HR0_0 := Aside0.mk hr0_0
 have HC0_0 := Aside0.mk hc0_0
 clear hr0_0 hc0_0
 have HR0_1 := Aside0.mk hr0_1
 have HC0_1 := Aside0.mk hc0_1
 clear hr0_1 hc0_1
 have HR1_0 := Aside0.mk hr1_0
 have HC1_0 := Aside0.mk hc1_0
 clear hr1_0 hc1_0
 have HR1_1 := Aside0.mk hr1_1
 have HC1_1 := Aside0.mk hc1_1
 clear hr1_1 hc1_1
 have HB := Aside0.mk (Below.refl w.heap.size w)
 have H : ((some (([] : List Int) : List Int)).bind fun y343 => (if 0 ≤ a2 then (if a2 < (l0_1.length : Int) then (if y343.length + ((rd_T55 l0_1 a2).f3).length < 140737488355328 then (spliceref13_Data.l0 k a2 (y343 ++ ((rd_T55 l0_1 a2).f3)) l0_0 l0_1 a0_2 l1_0 l1_1 a1_2 a1_3 a1_4) else (none)) else (none)) else (none))) = some (r1, r2) := h
 clear h
 obtain ⟨y343, hy343⟩ : ∃ y_ : List Int, y_ = (([] : List Int)) := ⟨_, rfl⟩
 replace H : (if 0 ≤ a2 then (if a2 < (l0_1.length : Int) then (if y343.length + ((rd_T55 l0_1 a2).f3).length < 140737488355328 then (spliceref13_Data.l0 k a2 (y343 ++ ((rd_T55 l0_1 a2).f3)) l0_0 l0_1 a0_2 l1_0 l1_1 a1_2 a1_3 a1_4) else (none)) else (none)) else (none)) = some (r1, r2) := by first | (rw [hy343]; with_reducible exact H) | (have H2_ := (Option.bind_some _ _).symm.trans H; rw [hy343]; with_reducible exact H2_) | (have H2_ := (Option.bind_some _ _).symm.trans H; with_reducible exact H2_) | with_reducible exact H | (rw [hy343]; exact H) | exact H
 have Ny343 := Aside0.mk hy343
 clear hy343
 by_cases c4 : 0 ≤ a2
 ·
  rw [if_pos c4] at H
  have c4b0 : decide (0 ≤ a2) = true := decide_eq_true c4
  clear c4
  by_cases c5 : a2 < (l0_1.length : Int)
  ·
   rw [if_pos c5] at H
   have c5b0 : decide (a2 < (l0_1.length : Int)) = true := decide_eq_true c5
   clear c5
   by_cases c6 : y343.length + ((rd_T55 l0_1 a2).f3).length < 140737488355328
   ·
    rw [if_pos c6] at H
    have LMc6 := Aside0.mk c6
    clear c6
    obtain ⟨y347, hy347⟩ : ∃ y_ : List Int, y_ = (y343 ++ ((rd_T55 l0_1 a2).f3)) := ⟨_, rfl⟩
    replace H : (spliceref13_Data.l0 k a2 y347 l0_0 l0_1 a0_2 l1_0 l1_1 a1_2 a1_3 a1_4) = some (r1, r2) := by first | (rw [hy347]; with_reducible exact H) | (have H2_ := (Option.bind_some _ _).symm.trans H; rw [hy347]; with_reducible exact H2_) | (have H2_ := (Option.bind_some _ _).symm.trans H; with_reducible exact H2_) | with_reducible exact H | (rw [hy347]; exact H) | exact H
    have Ny347 := Aside0.mk hy347
    clear hy347
    have H' := Aside0.mk H
    clear H
    go_enter Try.func15, Try.ntmps15
    go_wp2_with (first | ((with_reducible refine gate_dst (N := 3) rfl ?_); refine box_event ?hg (N := 3) ?hd (cs := #[.slice A0_0 l0_0.length c0_0, .slice A0_1 l0_1.length c0_1, .int .i64 a0_2]) (t := 25) ?hr ?_; (case hd => rfl); (case hg => rfl); (case hr => first | (go_simp; done) | (go_simp; rfl)); intro gb341 hg w7 hbox hb; have n0_ := Aside0.mk (below_step (by apply_rules (transparency := .reducible) only [HB.out, below_alloc, pw_below_drewN, below_drew1]) hb); have n1_ := Aside0.mk (hbox); have n2_ := Aside0.mk ((by rw [hg]; exact (below_size (by apply_rules (transparency := .reducible) only [HB.out, below_alloc, pw_below_drewN, below_drew1])) : w.heap.size ≤ gb341)); have n3_ := Aside0.mk ((by rw [hg]; exact (below_size (by apply_rules (transparency := .reducible) only [HB.out, below_alloc, pw_below_drewN, below_drew1])) : w.heap.size ≤ gb341)); clear HB; have HB := n0_; have BK341 := n1_; have GW341 := n2_; have GE341 := n3_; clear n0_ n1_ n2_ n3_; clear hb hbox hg) | ((with_reducible refine gate_dst (N := 4) rfl ?_); refine box_event ?hg (N := 4) ?hd (cs := #[.slice A1_0 l1_0.length c1_0, .slice A1_1 l1_1.length c1_1, .int .i64 a1_2, .int .i64 a1_3, .int .i64 a1_4]) (t := 30) ?hr ?_; (case hd => rfl); (case hg => rfl); (case hr => first | (go_simp; done) | (go_simp; rfl)); intro gb342 hg w8 hbox hb; have n0_ := Aside0.mk (blk_below (g := gb341) (o := .cells #[.slice A0_0 l0_0.length c0_0, .slice A0_1 l0_1.length c0_1, .int .i64 a0_2] 25 (0, 0)) (by apply_rules (transparency := .reducible) only [blk_drewN, blk_drew, blk_alloc, BK341.out]) hb); have n1_ := Aside0.mk (below_step (by apply_rules (transparency := .reducible) only [HB.out, below_alloc, pw_below_drewN, below_drew1, below_set, GE341.out]) hb); have n2_ := Aside0.mk (hbox); have n3_ := Aside0.mk ((by rw [hg]; exact (below_size (by apply_rules (transparency := .reducible) only [HB.out, below_alloc, pw_below_drewN, below_drew1, below_set, GE341.out])) : w.heap.size ≤ gb342)); have n4_ := Aside0.mk ((by rw [hg]; exact (below_size (by apply_rules (transparency := .reducible) only [HB.out, below_alloc, pw_below_drewN, below_drew1, below_set, GE341.out])) : w.heap.size ≤ gb342)); have n5_ := Aside0.mk ((by rw [hg]; exact Nat.ne_of_lt (blk_lt (g := gb341) (o := .cells #[.slice A0_0 l0_0.length c0_0, .slice A0_1 l0_1.length c0_1, .int .i64 a0_2] 25 (0, 0)) (by apply_rules (transparency := .reducible) only [blk_drewN, blk_drew, blk_alloc, BK341.out])) : gb341 ≠ gb342)); have n6_ := Aside0.mk ((by rw [hg]; exact Nat.ne_of_gt (blk_lt (g := gb341) (o := .cells #[.slice A0_0 l0_0.length c0_0, .slice A0_1 l0_1.length c0_1, .int .i64 a0_2] 25 (0, 0)) (by apply_rules (transparency := .reducible) only [blk_drewN, blk_drew, blk_alloc, BK341.out])) : gb342 ≠ gb341)); clear BK341; clear HB; have BK341 := n0_; have HB := n1_; have BK342 := n2_; have GW342 := n3_; have GE342 := n4_; have NB341_342 := n5_; have NB342_341 := n6_; clear n0_ n1_ n2_ n3_ n4_ n5_ n6_; clear hb hbox hg) | ((with_reducible refine gate_dst (N := 14) rfl ?_); refine Kd.R_lit (Kd.int .u8) _ 5 ?hg (N := 14) ?hd (xs := ([] : List Int)) (inner := []) (ok := fun _ => True) (okp := fun _ => True) ?hr ?hp (fun _ hk => hk) trivial (Below.refl _ _) (Nat.le_refl _) (by simp) ?_; (case hd => rfl); (case hg => rfl); (case hr => first | (go_simp; done) | (go_simp; rfl)); (case hp => exact (Reps.none _ _)); intro v344 w9 ho10 hb hg_ hnew_; clear hg_ hnew_; (first | rw [← Ny343.out] at ho10 | (simp only [Int.reduceToNat] at ho10; rw [← Ny343.out] at ho10)); have n0_ := Aside0.mk (Kd.R_lower ho10 (below_size (by apply_rules (transparency := .reducible) only [HB.out, below_alloc, pw_below_drewN, below_drew1, below_set, GE341.out, GE342.out]))); have n1_ := Aside0.mk (blk_below (g := gb341) (o := .cells #[.slice A0_0 l0_0.length c0_0, .slice A0_1 l0_1.length c0_1, .int .i64 a0_2] 25 (0, 0)) (by apply_rules (transparency := .reducible) only [blk_drewN, blk_drew, blk_alloc, BK341.out]) hb); have n2_ := Aside0.mk (blk_below (g := gb342) (o := .cells #[.slice A1_0 l1_0.length c1_0, .slice A1_1 l1_1.length c1_1, .int .i64 a1_2, .int .i64 a1_3, .int .i64 a1_4] 30 (0, 0)) (by apply_rules (transparency := .reducible) only [blk_drewN, blk_drew, blk_alloc, BK342.out]) hb); have n3_ := Aside0.mk (below_step (by apply_rules (transparency := .reducible) only [HB.out, below_alloc, pw_below_drewN, below_drew1, below_set, GE341.out, GE342.out]) hb); clear BK341; clear BK342; clear HB; have HO345 := n0_; have BK341 := n1_; have BK342 := n2_; have HB := n3_; clear n0_ n1_ n2_ n3_; clear hb ho10; have hnb11 := NB341_342.out; have hnc11 := NB342_341.out; obtain ⟨hcz12_0, hcz12_1, hcz12_2⟩ := blkc44_3 BK341.out; obtain ⟨hfz12_0, hfz12_1, hfz12_2⟩ := blkf44_3 BK341.out; have p346 : 0 ≤ (a2 : Int) := of_decide_eq_true (by first | (with_reducible assumption) | assumption); have q346 : a2 < (l0_1.length : Int) := of_decide_eq_true (by first | (with_reducible assumption) | assumption); obtain ⟨ad346, A346_3, c346_3, A346_4, c346_4, e346, hx346_0, hx346_1, hx346_2, hx346_3, hx346_4, hl346_3, hi346_3, hl346_4, hi346_4⟩ := at_T55 HR0_1.out a2 p346 q346; cases e346; replace hx346_0 := (HB.out.cell (World.block_lt_of_cell? w _ hx346_0)).trans hx346_0; replace hx346_1 := (HB.out.cell (World.block_lt_of_cell? w _ hx346_1)).trans hx346_1; replace hx346_2 := (HB.out.cell (World.block_lt_of_cell? w _ hx346_2)).trans hx346_2; replace hx346_3 := (HB.out.cell (World.block_lt_of_cell? w _ hx346_3)).trans hx346_3; replace hx346_4 := (HB.out.cell (World.block_lt_of_cell? w _ hx346_4)).trans hx346_4; have HR346_3 := Aside0.mk hi346_3; have HC346_3 := Aside0.mk hl346_3; clear hi346_3 hl346_3; have HR346_4 := Aside0.mk hi346_4; have HC346_4 := Aside0.mk hl346_4; clear hi346_4 hl346_4; replace p346 := eq_true p346; replace q346 := eq_true q346) | ((with_reducible refine gate_builtin (b := .append) (xs := #[.tmp 14, .tmp 20]) rfl ?_); at_builtin; refine Kd.R_append_rows (Kd.int .u8) (w0 := w) w.heap.size rfl (.tmp 14) (.tmp 20) 38 5 (.int .u8 0) 1 rfl Try.underlying38 info5 rfl (by decide) (by omega) v344 y343 ((rd_T55 l0_1 a2).f3) _ _ _ (fun _ => True) (fun _ => False) rfl rfl ?aO ?aR (fun _ _ h => h) (fun _ h => h.elim) ?aF ?aB ?aS ?aL ?_; (case aR => repeat (first | exact (Kd.C_below HR346_3.out HB.out) | (with_reducible refine Kd.C_alloc ?_ _) | (with_reducible refine Kd.C_drewN ?_ _) | (with_reducible refine Kd.C_drew ?_))); (case aB => exact (by apply_rules (transparency := .reducible) only [HB.out, below_alloc, pw_below_drewN, below_drew1, below_set, GE341.out, GE342.out])); (case aF => exact (fun _ _ => trivial)); (case aO => exact (by (with_reducible repeat (first | apply Kd.R_alloc | apply Kd.R_drewN | apply Kd.R_drew)); exact HO345.out)); (case aS => exact (below_size (by apply_rules (transparency := .reducible) only [HB.out, below_alloc, pw_below_drewN, below_drew1, below_set, GE341.out, GE342.out]))); (case aL => have := LMc6.out; omega); intro v348 w13 ho hb hg hat; rw [← Ny347.out] at ho; have n0_ := Aside0.mk (blk_grown (g := gb341) (o := .cells #[.slice A0_0 l0_0.length c0_0, .slice (some ad346) l0_1.length c0_1, .int .i64 a0_2] 25 (0, 0)) (by apply_rules (transparency := .reducible) only [blk_drewN, blk_drew, blk_alloc, BK341.out]) hg (Kd.R_ne HO345.out BK341.out (by decide))); have n1_ := Aside0.mk (blk_grown (g := gb342) (o := .cells #[.slice A1_0 l1_0.length c1_0, .slice A1_1 l1_1.length c1_1, .int .i64 a1_2, .int .i64 a1_3, .int .i64 a1_4] 30 (0, 0)) (by apply_rules (transparency := .reducible) only [blk_drewN, blk_drew, blk_alloc, BK342.out]) hg (Kd.R_ne HO345.out BK342.out (by decide))); have n2_ := Aside0.mk (hb); have n3_ := Aside0.mk (ho); clear BK341; clear BK342; clear HB; clear HO345; have BK341 := n0_; have BK342 := n1_; have HB := n2_; have HO349 := n3_; clear n0_ n1_ n2_ n3_; clear ho hb hg hat))
    go_loopg [8] k (fun kq v8 w' => ∃ (x8_1 : List Int), Aside0 (spliceref13_Data.l0 kq a2 x8_1 l0_0 l0_1 a0_2 l1_0 l1_1 a1_2 a1_3 a1_4 = some (r1, r2)) ∧ Aside0 (kq ≤ k) ∧ Aside0 (Kd.R (Kd.int .u8) 5 w' w.heap.size (fun _ => True) v8 x8_1) ∧ Aside0 (w'.heap[gb341]? = some (.cells #[(.slice A0_0 l0_0.length c0_0), (.slice (some ad346) l0_1.length c0_1), .int .i64 a0_2] 25 (0, 0))) ∧ Aside0 (w'.heap[gb342]? = some (.cells #[(.slice A1_0 l1_0.length c1_0), (.slice A1_1 l1_1.length c1_1), .int .i64 a1_2, .int .i64 a1_3, .int .i64 a1_4] 30 (0, 0))) ∧ Aside0 (Below w.heap.size w w'))
    case atStart => exact ⟨(y347), H', ⟨Nat.le_refl _⟩, ⟨by (with_reducible repeat (first | apply Kd.R_alloc | apply Kd.R_drewN | apply Kd.R_drew)); exact HO349.out⟩, ⟨by apply_rules (transparency := .reducible) only [blk_drewN, blk_drew, blk_alloc, BK341.out]⟩, ⟨by apply_rules (transparency := .reducible) only [blk_drewN, blk_drew, blk_alloc, BK342.out]⟩, ⟨by apply_rules (transparency := .reducible) only [HB.out, below_alloc, pw_below_drewN, below_drew1, below_set, GE341.out, GE342.out]⟩⟩
    case round =>
     clear H'
     (try clear c1); (try clear p2); (try clear c3); (try clear p3); (try clear q3); (try clear hx3); (try clear c4); (try clear c4b0); (try clear c5); (try clear c5b0); (try clear c6); (try clear c11); (try clear hcz12_0); (try clear hcz12_1); (try clear hcz12_2); (try clear hfz12_0); (try clear hfz12_1); (try clear hfz12_2); (try clear hx346_0); (try clear hx346_1); (try clear hx346_2); (try clear hx346_3); (try clear hx346_4); (try clear p346); (try clear q346)
     obtain ⟨x8_1, HA, HK1, HO_8, BK341, BK342, HB⟩ := hrel
     cases gk with
     | zero => exact absurd HA.out (by simp [spliceref13_Data.l0])
     | succ k1 =>
      have H := HA.out
      clear HA
      simp only [spliceref13_Data.l0] at H
      by_cases c14 : 0 ≤ a2
      ·
       rw [if_pos c14] at H
       have c14b0 : decide (0 ≤ a2) = true := decide_eq_true c14
       clear c14
       by_cases c15 : a2 < (l0_1.length : Int)
       ·
        rw [if_pos c15] at H
        have c15b0 : decide (a2 < (l0_1.length : Int)) = true := decide_eq_true c15
        clear c15
        by_cases c16 : (x8_1.length : Int) < ((rd_T55 l0_1 a2).f2)
        ·
         rw [if_pos c16] at H
         have c16b0 : decide ((x8_1.length : Int) < ((rd_T55 l0_1 a2).f2)) = true := decide_eq_true c16
         clear c16
         by_cases c17 : x8_1.length < 140737488355328
         ·
          rw [if_pos c17] at H
          have LMc17 := Aside0.mk c17
          clear c17
          obtain ⟨y351, hy351⟩ : ∃ y_ : List Int, y_ = (x8_1 ++ [0]) := ⟨_, rfl⟩
          replace H : (spliceref13_Data.l0 k1 a2 y351 l0_0 l0_1 a0_2 l1_0 l1_1 a1_2 a1_3 a1_4) = some (r1, r2) := by first | (rw [hy351]; with_reducible exact H) | (have H2_ := (Option.bind_some _ _).symm.trans H; rw [hy351]; with_reducible exact H2_) | (have H2_ := (Option.bind_some _ _).symm.trans H; with_reducible exact H2_) | with_reducible exact H | (rw [hy351]; exact H) | exact H
          have Ny351 := Aside0.mk hy351
          clear hy351
          have H' := Aside0.mk H
          clear H
          obtain ⟨Ao18, co18, eo18⟩ := Kd.R_slice HO_8.out
          subst eo18
          have hnb19 := NB341_342.out
          have hnc19 := NB342_341.out
          obtain ⟨hcz20_0, hcz20_1, hcz20_2⟩ := blkc44_3 BK341.out
          obtain ⟨hfz20_0, hfz20_1, hfz20_2⟩ := blkf44_3 BK341.out
          have p350 : 0 ≤ (a2 : Int) := of_decide_eq_true (by first | (with_reducible assumption) | assumption)
          have q350 : a2 < (l0_1.length : Int) := of_decide_eq_true (by first | (with_reducible assumption) | assumption)
          obtain ⟨ad350, A350_3, c350_3, A350_4, c350_4, e350, hx350_0, hx350_1, hx350_2, hx350_3, hx350_4, hl350_3, hi350_3, hl350_4, hi350_4⟩ := at_T55 HR0_1.out a2 p350 q350
          obtain rfl : ad346 = ad350 := (by injection e350)
          replace hx350_0 := (HB.out.cell (World.block_lt_of_cell? w _ hx350_0)).trans hx350_0
          replace hx350_1 := (HB.out.cell (World.block_lt_of_cell? w _ hx350_1)).trans hx350_1
          replace hx350_2 := (HB.out.cell (World.block_lt_of_cell? w _ hx350_2)).trans hx350_2
          replace hx350_3 := (HB.out.cell (World.block_lt_of_cell? w _ hx350_3)).trans hx350_3
          replace hx350_4 := (HB.out.cell (World.block_lt_of_cell? w _ hx350_4)).trans hx350_4
          have HR350_3 := Aside0.mk hi350_3
          have HC350_3 := Aside0.mk hl350_3
          clear hi350_3 hl350_3
          have HR350_4 := Aside0.mk hi350_4
          have HC350_4 := Aside0.mk hl350_4
          clear hi350_4 hl350_4
          replace p350 := eq_true p350
          replace q350 := eq_true q350
          go_wp2_with (first | ((with_reducible refine gate_builtin (b := .append) (xs := #[.tmp 31, .tmp 32]) rfl ?_); at_builtin; refine Kd.R_append (Kd.int .u8) (w0 := w) w.heap.size rfl (.tmp 31) (.tmp 32) 38 5 (.int .u8 0) 1 rfl Try.underlying38 info5 rfl (by decide) (by omega) (.slice Ao18 x8_1.length co18) x8_1 0 [.int .u8 0] (fun _ => True) (fun _ => False) rfl rfl ?aP (fun _ hk => hk.elim) ?aF ?aO ?aB ?aS ?aL ?_; (case aP => exact rfl); (case aB => exact (by apply_rules (transparency := .reducible) only [HB.out, below_alloc, pw_below_drewN, below_drew1, below_set, GE341.out, GE342.out])); (case aF => exact (fun _ _ => trivial)); (case aO => exact (by (with_reducible repeat (first | apply Kd.R_alloc | apply Kd.R_drewN | apply Kd.R_drew)); exact HO_8.out)); (case aS => exact (below_size (by apply_rules (transparency := .reducible) only [HB.out, below_alloc, pw_below_drewN, below_drew1, below_set, GE341.out, GE342.out]))); (case aL => have := LMc17.out; omega); intro v352 w21 ho hb hg hat; rw [← Ny351.out] at ho; have n0_ := Aside0.mk (blk_grown (g := gb341) (o := .cells #[.slice A0_0 l0_0.length c0_0, .slice (some ad346) l0_1.length c0_1, .int .i64 a0_2] 25 (0, 0)) (by apply_rules (transparency := .reducible) only [blk_drewN, blk_drew, blk_alloc, BK341.out]) hg (Kd.R_ne HO_8.out BK341.out (by decide))); have n1_ := Aside0.mk (blk_grown (g := gb342) (o := .cells #[.slice A1_0 l1_0.length c1_0, .slice A1_1 l1_1.length c1_1, .int .i64 a1_2, .int .i64 a1_3, .int .i64 a1_4] 30 (0, 0)) (by apply_rules (transparency := .reducible) only [blk_drewN, blk_drew, blk_alloc, BK342.out]) hg (Kd.R_ne HO_8.out BK342.out (by decide))); have n2_ := Aside0.mk (hb); have n3_ := Aside0.mk (ho); clear BK341; clear BK342; clear HB; clear HO_8; have BK341 := n0_; have BK342 := n1_; have HB := n2_; have HO353 := n3_; clear n0_ n1_ n2_ n3_; clear ho hb hg hat))
          go_roundg k1
          case measure => have := HK1.out; omega
          case rel => exact ⟨(y351), H', ⟨by have := HK1.out; omega⟩, ⟨by (with_reducible repeat (first | apply Kd.R_alloc | apply Kd.R_drewN | apply Kd.R_drew)); exact HO353.out⟩, ⟨by apply_rules (transparency := .reducible) only [blk_drewN, blk_drew, blk_alloc, BK341.out]⟩, ⟨by apply_rules (transparency := .reducible) only [blk_drewN, blk_drew, blk_alloc, BK342.out]⟩, ⟨by apply_rules (transparency := .reducible) only [HB.out, below_alloc, pw_below_drewN, below_drew1, below_set, GE341.out, GE342.out]⟩⟩
         ·
          rw [if_neg c17] at H
          exact absurd H (by simp)
        ·
         rw [if_neg c16] at H
         have c16b0 : decide ((x8_1.length : Int) < ((rd_T55 l0_1 a2).f2)) = false := decide_eq_false c16
         clear c16
         have H' := Aside0.mk H
         clear H
         obtain ⟨Ao22, co22, eo22⟩ := Kd.R_slice HO_8.out
         subst eo22
         have hnb23 := NB341_342.out
         have hnc23 := NB342_341.out
         obtain ⟨hcz24_0, hcz24_1, hcz24_2⟩ := blkc44_3 BK341.out
         obtain ⟨hfz24_0, hfz24_1, hfz24_2⟩ := blkf44_3 BK341.out
         have p350 : 0 ≤ (a2 : Int) := of_decide_eq_true (by first | (with_reducible assumption) | assumption)
         have q350 : a2 < (l0_1.length : Int) := of_decide_eq_true (by first | (with_reducible assumption) | assumption)
         obtain ⟨ad350, A350_3, c350_3, A350_4, c350_4, e350, hx350_0, hx350_1, hx350_2, hx350_3, hx350_4, hl350_3, hi350_3, hl350_4, hi350_4⟩ := at_T55 HR0_1.out a2 p350 q350
         obtain rfl : ad346 = ad350 := (by injection e350)
         replace hx350_0 := (HB.out.cell (World.block_lt_of_cell? w _ hx350_0)).trans hx350_0
         replace hx350_1 := (HB.out.cell (World.block_lt_of_cell? w _ hx350_1)).trans hx350_1
         replace hx350_2 := (HB.out.cell (World.block_lt_of_cell? w _ hx350_2)).trans hx350_2
         replace hx350_3 := (HB.out.cell (World.block_lt_of_cell? w _ hx350_3)).trans hx350_3
         replace hx350_4 := (HB.out.cell (World.block_lt_of_cell? w _ hx350_4)).trans hx350_4
         have HR350_3 := Aside0.mk hi350_3
         have HC350_3 := Aside0.mk hl350_3
         clear hi350_3 hl350_3
         have HR350_4 := Aside0.mk hi350_4
         have HC350_4 := Aside0.mk hl350_4
         clear hi350_4 hl350_4
         replace p350 := eq_true p350
         replace q350 := eq_true q350
         go_wp2
         go_loopg [9] k1 (fun kq v9 w' => ∃ (x8_2 : List Int) (x9_2 : Int), v9 = .int .i64 x9_2 ∧ Aside0 (spliceref13_Data.l1 kq a2 x8_2 x9_2 l0_0 l0_1 a0_2 l1_0 l1_1 a1_2 a1_3 a1_4 = some (r1, r2)) ∧ Aside0 (kq ≤ k1) ∧ Aside0 (Kd.R (Kd.int .u8) 5 w' w.heap.size (fun _ => True) (.slice Ao22 x8_1.length co22) x8_2) ∧ Aside0 (w'.heap[gb341]? = some (.cells #[(.slice A0_0 l0_0.length c0_0), (.slice (some ad346) l0_1.length c0_1), .int .i64 a0_2] 25 (0, 0))) ∧ Aside0 (w'.heap[gb342]? = some (.cells #[(.slice A1_0 l1_0.length c1_0), (.slice A1_1 l1_1.length c1_1), .int .i64 a1_2, .int .i64 a1_3, .int .i64 a1_4] 30 (0, 0))) ∧ Aside0 (Below w.heap.size w w'))
         case atStart => exact ⟨(x8_1), (0), (by first | rfl | (simp; done) | (simp [*]; done)), H', ⟨Nat.le_refl _⟩, ⟨by (with_reducible repeat (first | apply Kd.R_alloc | apply Kd.R_drewN | apply Kd.R_drew)); exact HO_8.out⟩, ⟨by apply_rules (transparency := .reducible) only [blk_drewN, blk_drew, blk_alloc, BK341.out]⟩, ⟨by apply_rules (transparency := .reducible) only [blk_drewN, blk_drew, blk_alloc, BK342.out]⟩, ⟨by apply_rules (transparency := .reducible) only [HB.out, below_alloc, pw_below_drewN, below_drew1, below_set, GE341.out, GE342.out]⟩⟩
         case round =>
          clear H'
          (try clear c1); (try clear c2); (try clear p2); (try clear c3); (try clear p3); (try clear q3); (try clear hx3); (try clear c4); (try clear c4b0); (try clear c5); (try clear c5b0); (try clear c6); (try clear c11); (try clear c14); (try clear c14b0); (try clear c15); (try clear c15b0); (try clear c16); (try clear c16b0); (try clear c17); (try clear c19); (try clear c23); (try clear hcz12_0); (try clear hcz12_1); (try clear hcz12_2); (try clear hcz20_0); (try clear hcz20_1); (try clear hcz20_2); (try clear hcz24_0); (try clear hcz24_1); (try clear hcz24_2); (try clear hfz12_0); (try clear hfz12_1); (try clear hfz12_2); (try clear hfz20_0); (try clear hfz20_1); (try clear hfz20_2); (try clear hfz24_0); (try clear hfz24_1); (try clear hfz24_2); (try clear hx346_0); (try clear hx346_1); (try clear hx346_2); (try clear hx346_3); (try clear hx346_4); (try clear hx350_0); (try clear hx350_1); (try clear hx350_2); (try clear hx350_3); (try clear hx350_4); (try clear p2); (try clear p3); (try clear p346); (try clear p350); (try clear q3); (try clear q346); (try clear q350)
          obtain ⟨x8_2, x9_2, rfl, HA, HK2, HO_8, BK341, BK342, HB⟩ := hrel
          have hl8_2 := (Kd.R_reads' HO_8.out).1
          rw [hl8_2] at HO_8
          (try simp only [hl8_2])
          (try simp only [hl8_2] at BK341)
          (try simp only [hl8_2] at BK342)
          cases gk with
          | zero => exact absurd HA.out (by simp [spliceref13_Data.l1])
          | succ k2 =>
           have H := HA.out
           clear HA
           simp only [spliceref13_Data.l1] at H
           by_cases c25 : 0 ≤ a2
           ·
            rw [if_pos c25] at H
            have c25b0 : decide (0 ≤ a2) = true := decide_eq_true c25
            clear c25
            by_cases c26 : a2 < (l0_1.length : Int)
            ·
             rw [if_pos c26] at H
             have c26b0 : decide (a2 < (l0_1.length : Int)) = true := decide_eq_true c26
             (try (have c26b0x := c26b0; simp only [hl8_2] at c26b0x))
             clear c26
             by_cases c27 : x9_2 < (((rd_T55 l0_1 a2).f4).length : Int)
             ·
              rw [if_pos c27] at H
              have c27b0 : decide (x9_2 < (((rd_T55 l0_1 a2).f4).length : Int)) = true := decide_eq_true c27
              (try (have c27b0x := c27b0; simp only [hl8_2] at c27b0x))
              clear c27
              by_cases c28 : 0 ≤ x9_2
              ·
               rw [if_pos c28] at H
               have c28b0 : decide (0 ≤ x9_2) = true := decide_eq_true c28
               clear c28
               by_cases c29 : 0 ≤ ((rd_T46 ((rd_T55 l0_1 a2).f4) x9_2).f2)
               ·
                rw [if_pos c29] at H
                have c29b0 : decide (0 ≤ ((rd_T46 ((rd_T55 l0_1 a2).f4) x9_2).f2)) = true := decide_eq_true c29
                clear c29
                by_cases c30 : ((rd_T46 ((rd_T55 l0_1 a2).f4) x9_2).f2) < (l1_1.length : Int)
                ·
                 rw [if_pos c30] at H
                 have c30b0 : decide (((rd_T46 ((rd_T55 l0_1 a2).f4) x9_2).f2) < (l1_1.length : Int)) = true := decide_eq_true c30
                 (try (have c30b0x := c30b0; simp only [hl8_2] at c30b0x))
                 clear c30
                 have HC31 := Aside0.mk H
                 clear H
                 have hnb32 := NB341_342.out
                 have hnc32 := NB342_341.out
                 obtain ⟨hcz33_0, hcz33_1, hcz33_2⟩ := blkc44_3 BK341.out
                 obtain ⟨hfz33_0, hfz33_1, hfz33_2⟩ := blkf44_3 BK341.out
                 have p354 : 0 ≤ (a2 : Int) := of_decide_eq_true (by first | (with_reducible assumption) | assumption)
                 have q354 : a2 < (l0_1.length : Int) := of_decide_eq_true (by first | (with_reducible assumption) | assumption)
                 obtain ⟨ad354, A354_3, c354_3, A354_4, c354_4, e354, hx354_0, hx354_1, hx354_2, hx354_3, hx354_4, hl354_3, hi354_3, hl354_4, hi354_4⟩ := at_T55 HR0_1.out a2 p354 q354
                 obtain rfl : ad346 = ad354 := (by injection e354)
                 replace hx354_0 := (HB.out.cell (World.block_lt_of_cell? w _ hx354_0)).trans hx354_0
                 replace hx354_1 := (HB.out.cell (World.block_lt_of_cell? w _ hx354_1)).trans hx354_1
                 replace hx354_2 := (HB.out.cell (World.block_lt_of_cell? w _ hx354_2)).trans hx354_2
                 replace hx354_3 := (HB.out.cell (World.block_lt_of_cell? w _ hx354_3)).trans hx354_3
                 replace hx354_4 := (HB.out.cell (World.block_lt_of_cell? w _ hx354_4)).trans hx354_4
                 have HR354_3 := Aside0.mk hi354_3
                 have HC354_3 := Aside0.mk hl354_3
                 clear hi354_3 hl354_3
                 have HR354_4 := Aside0.mk hi354_4
                 have HC354_4 := Aside0.mk hl354_4
                 clear hi354_4 hl354_4
                 replace p354 := eq_true p354
                 replace q354 := eq_true q354
                 have p355 : 0 ≤ (a2 : Int) := of_decide_eq_true (by first | (with_reducible assumption) | assumption)
                 have q355 : a2 < (l0_1.length : Int) := of_decide_eq_true (by first | (with_reducible assumption) | assumption)
                 obtain ⟨ad355, A355_3, c355_3, A355_4, c355_4, e355, hx355_0, hx355_1, hx355_2, hx355_3, hx355_4, hl355_3, hi355_3, hl355_4, hi355_4⟩ := at_T55 HR0_1.out a2 p355 q355
                 obtain rfl : ad346 = ad355 := (by injection e355)
                 replace hx355_0 := (HB.out.cell (World.block_lt_of_cell? w _ hx355_0)).trans hx355_0
                 replace hx355_1 := (HB.out.cell (World.block_lt_of_cell? w _ hx355_1)).trans hx355_1
                 replace hx355_2 := (HB.out.cell (World.block_lt_of_cell? w _ hx355_2)).trans hx355_2
                 replace hx355_3 := (HB.out.cell (World.block_lt_of_cell? w _ hx355_3)).trans hx355_3
                 replace hx355_4 := (HB.out.cell (World.block_lt_of_cell? w _ hx355_4)).trans hx355_4
                 have HR355_3 := Aside0.mk hi355_3
                 have HC355_3 := Aside0.mk hl355_3
                 clear hi355_3 hl355_3
                 have HR355_4 := Aside0.mk hi355_4
                 have HC355_4 := Aside0.mk hl355_4
                 clear hi355_4 hl355_4
                 replace p355 := eq_true p355
                 replace q355 := eq_true q355
                 have ea_ := Option.some.inj (hx354_3.symm.trans hx355_3)
                 injection ea_ with ea_ en_ ec_
                 subst ea_
                 subst ec_
                 clear en_
                 have ea_ := Option.some.inj (hx354_4.symm.trans hx355_4)
                 injection ea_ with ea_ en_ ec_
                 subst ea_
                 subst ec_
                 clear en_
                 have p356 : 0 ≤ (x9_2 : Int) := of_decide_eq_true (by first | (with_reducible assumption) | assumption)
                 have q356 : x9_2 < (((rd_T55 l0_1 a2).f4).length : Int) := of_decide_eq_true (by first | (with_reducible assumption) | assumption)
                 obtain ⟨ad356, e356, hx356_0, hx356_1, hx356_2, hx356_3⟩ := at_T46 HR355_4.out x9_2 p356 q356
                 cases e356
                 replace hx356_0 := (HB.out.cell (World.block_lt_of_cell? w _ hx356_0)).trans hx356_0
                 replace hx356_1 := (HB.out.cell (World.block_lt_of_cell? w _ hx356_1)).trans hx356_1
                 replace hx356_2 := (HB.out.cell (World.block_lt_of_cell? w _ hx356_2)).trans hx356_2
                 replace hx356_3 := (HB.out.cell (World.block_lt_of_cell? w _ hx356_3)).trans hx356_3
                 replace p356 := eq_true p356
                 replace q356 := eq_true q356
                 try go_wp2_with (first | ((with_reducible refine gate_dst (N := 10) rfl ?_); refine box_event ?hg (N := 10) ?hd (cs := #[.int .i64 0, .int .i64 0, .int .i64 0, .int .i64 0]) (t := 46) ?hr ?_; (case hd => rfl); (case hg => rfl); (case hr => first | (go_simp; done) | (go_simp; rfl)); intro gb357 hg w34 hbox hb; have n0_ := Aside0.mk (Kd.R_below (by (with_reducible repeat (first | apply Kd.R_alloc | apply Kd.R_drewN | apply Kd.R_drew)); exact HO_8.out) hb); have n1_ := Aside0.mk (blk_below (g := gb341) (o := .cells #[.slice A0_0 l0_0.length c0_0, .slice (some ad346) l0_1.length c0_1, .int .i64 a0_2] 25 (0, 0)) (by apply_rules (transparency := .reducible) only [blk_drewN, blk_drew, blk_alloc, BK341.out]) hb); have n2_ := Aside0.mk (blk_below (g := gb342) (o := .cells #[.slice A1_0 l1_0.length c1_0, .slice A1_1 l1_1.length c1_1, .int .i64 a1_2, .int .i64 a1_3, .int .i64 a1_4] 30 (0, 0)) (by apply_rules (transparency := .reducible) only [blk_drewN, blk_drew, blk_alloc, BK342.out]) hb); have n3_ := Aside0.mk (below_step (by apply_rules (transparency := .reducible) only [HB.out, below_alloc, pw_below_drewN, below_drew1, below_set, GE341.out, GE342.out]) hb); have n4_ := Aside0.mk (hbox); have n5_ := Aside0.mk ((by rw [hg]; exact (below_size (by apply_rules (transparency := .reducible) only [HB.out, below_alloc, pw_below_drewN, below_drew1, below_set, GE341.out, GE342.out])) : w.heap.size ≤ gb357)); have n6_ := Aside0.mk ((by rw [hg]; exact (below_size (by apply_rules (transparency := .reducible) only [HB.out, below_alloc, pw_below_drewN, below_drew1, below_set, GE341.out, GE342.out])) : w.heap.size ≤ gb357)); have n7_ := Aside0.mk ((by rw [hg]; exact Nat.ne_of_lt (blk_lt (g := gb341) (o := .cells #[.slice A0_0 l0_0.length c0_0, .slice (some ad346) l0_1.length c0_1, .int .i64 a0_2] 25 (0, 0)) (by apply_rules (transparency := .reducible) only [blk_drewN, blk_drew, blk_alloc, BK341.out])) : gb341 ≠ gb357)); have n8_ := Aside0.mk ((by rw [hg]; exact Nat.ne_of_gt (blk_lt (g := gb341) (o := .cells #[.slice A0_0 l0_0.length c0_0, .slice (some ad346) l0_1.length c0_1, .int .i64 a0_2] 25 (0, 0)) (by apply_rules (transparency := .reducible) only [blk_drewN, blk_drew, blk_alloc, BK341.out])) : gb357 ≠ gb341)); have n9_ := Aside0.mk ((by rw [hg]; exact Nat.ne_of_lt (blk_lt (g := gb342) (o := .cells #[.slice A1_0 l1_0.length c1_0, .slice A1_1 l1_1.length c1_1, .int .i64 a1_2, .int .i64 a1_3, .int .i64 a1_4] 30 (0, 0)) (by apply_rules (transparency := .reducible) only [blk_drewN, blk_drew, blk_alloc, BK342.out])) : gb342 ≠ gb357)); have n10_ := Aside0.mk ((by rw [hg]; exact Nat.ne_of_gt (blk_lt (g := gb342) (o := .cells #[.slice A1_0 l1_0.length c1_0, .slice A1_1 l1_1.length c1_1, .int .i64 a1_2, .int .i64 a1_3, .int .i64 a1_4] 30 (0, 0)) (by apply_rules (transparency := .reducible) only [blk_drewN, blk_drew, blk_alloc, BK342.out])) : gb357 ≠ gb342)); clear HO_8; clear BK341; clear BK342; clear HB; have HO_8 := n0_; have BK341 := n1_; have BK342 := n2_; have HB := n3_; have BK357 := n4_; have GW357 := n5_; have GE357 := n6_; have NB341_357 := n7_; have NB357_341 := n8_; have NB342_357 := n9_; have NB357_342 := n10_; clear n0_ n1_ n2_ n3_ n4_ n5_ n6_ n7_ n8_ n9_ n10_; clear hb hbox hg; have hnb35 := NB357_341.out; have hnc35 := NB341_357.out; have hnb36 := NB357_342.out; have hnc36 := NB342_357.out; obtain ⟨hcz37_0, hcz37_1, hcz37_2, hcz37_3⟩ := blkc44_4 BK357.out; obtain ⟨hfz37_0, hfz37_1, hfz37_2, hfz37_3⟩ := blkf44_4 BK357.out))
                 obtain ⟨w38, hw38_⟩ : ∃ w_ : World, w_ = ((((w34.setCell ⟨gb357, 0, none⟩ (.int .i64 ((rd_T46 ((rd_T55 l0_1 a2).f4) x9_2).f0))).setCell ⟨gb357, 1, none⟩ (.int .i64 ((rd_T46 ((rd_T55 l0_1 a2).f4) x9_2).f1))).setCell ⟨gb357, 2, none⟩ (.int .i64 ((rd_T46 ((rd_T55 l0_1 a2).f4) x9_2).f2))).setCell ⟨gb357, 3, none⟩ (.int .i64 ((rd_T46 ((rd_T55 l0_1 a2).f4) x9_2).f3))) := ⟨_, rfl⟩
                 have n0_ : Aside0 (Kd.R (Kd.int .u8) 5 w38 w.heap.size (fun _ => True) (.slice Ao22 x8_2.length co22) x8_2) := ⟨by rw [hw38_]; (with_reducible repeat (first | apply Kd.R_alloc | apply Kd.R_drewN | apply Kd.R_drew)); exact Kd.R_mono (Kd.R_far (p := ⟨gb357, 3, none⟩) (Kd.R_far (p := ⟨gb357, 2, none⟩) (Kd.R_far (p := ⟨gb357, 1, none⟩) (Kd.R_far (p := ⟨gb357, 0, none⟩) (Kd.R_types HO_8.out BK357.out (by decide)) (fun _ hk => hk.2) (.int .i64 ((rd_T46 ((rd_T55 l0_1 a2).f4) x9_2).f0))) (fun _ hk => hk.2) (.int .i64 ((rd_T46 ((rd_T55 l0_1 a2).f4) x9_2).f1))) (fun _ hk => hk.2) (.int .i64 ((rd_T46 ((rd_T55 l0_1 a2).f4) x9_2).f2))) (fun _ hk => hk.2) (.int .i64 ((rd_T46 ((rd_T55 l0_1 a2).f4) x9_2).f3))) (fun _ hk => trivial)⟩
                 have n1_ : Aside0 (w38.heap[gb341]? = some (.cells #[.slice A0_0 l0_0.length c0_0, .slice (some ad346) l0_1.length c0_1, .int .i64 a0_2] 25 (0, 0))) := ⟨by rw [hw38_]; apply_rules (transparency := .reducible) only [blk_drewN, blk_drew, blk_alloc, blk_far, NB341_357.out, BK341.out]⟩
                 have n2_ : Aside0 (w38.heap[gb342]? = some (.cells #[.slice A1_0 l1_0.length c1_0, .slice A1_1 l1_1.length c1_1, .int .i64 a1_2, .int .i64 a1_3, .int .i64 a1_4] 30 (0, 0))) := ⟨by rw [hw38_]; apply_rules (transparency := .reducible) only [blk_drewN, blk_drew, blk_alloc, blk_far, NB342_357.out, BK342.out]⟩
                 have n3_ : Aside0 (w38.heap[gb357]? = some (.cells #[.int .i64 ((rd_T46 ((rd_T55 l0_1 a2).f4) x9_2).f0), .int .i64 ((rd_T46 ((rd_T55 l0_1 a2).f4) x9_2).f1), .int .i64 ((rd_T46 ((rd_T55 l0_1 a2).f4) x9_2).f2), .int .i64 ((rd_T46 ((rd_T55 l0_1 a2).f4) x9_2).f3)] 46 (0, 0))) := ⟨by rw [hw38_]; (try apply_rules (transparency := .reducible) only [blk_drewN, blk_drew, blk_alloc]); refine blk_put (cs := #[.int .i64 ((rd_T46 ((rd_T55 l0_1 a2).f4) x9_2).f0), .int .i64 ((rd_T46 ((rd_T55 l0_1 a2).f4) x9_2).f1), .int .i64 ((rd_T46 ((rd_T55 l0_1 a2).f4) x9_2).f2), .int .i64 0]) ?_ 3 _ rfl; refine blk_put (cs := #[.int .i64 ((rd_T46 ((rd_T55 l0_1 a2).f4) x9_2).f0), .int .i64 ((rd_T46 ((rd_T55 l0_1 a2).f4) x9_2).f1), .int .i64 0, .int .i64 0]) ?_ 2 _ rfl; refine blk_put (cs := #[.int .i64 ((rd_T46 ((rd_T55 l0_1 a2).f4) x9_2).f0), .int .i64 0, .int .i64 0, .int .i64 0]) ?_ 1 _ rfl; refine blk_put (cs := #[.int .i64 0, .int .i64 0, .int .i64 0, .int .i64 0]) ?_ 0 _ rfl; (try apply_rules (transparency := .reducible) only [blk_drewN, blk_drew, blk_alloc]); exact BK357.out⟩
                 have n4_ : Aside0 (Below w.heap.size w w38) := ⟨by rw [hw38_]; apply_rules (transparency := .reducible) only [HB.out, below_alloc, pw_below_drewN, below_drew1, below_set, GE341.out, GE342.out, GE357.out]⟩
                 (try clear HO_8)
                 (try clear BK341)
                 (try clear BK342)
                 (try clear BK357)
                 (try clear HB)
                 (try rw [← hw38_])
                 clear hw38_
                 have HO_8 := n0_
                 have BK341 := n1_
                 have BK342 := n2_
                 have BK357 := n3_
                 have HB := n4_
                 clear n0_ n1_ n2_ n3_ n4_
                 have n0_ := Aside0.mk (Kd.R_drew HO_8.out)
                 have n1_ := Aside0.mk (blk_drew BK341.out)
                 have n2_ := Aside0.mk (blk_drew BK342.out)
                 have n3_ := Aside0.mk (blk_drew BK357.out)
                 have n4_ := Aside0.mk (below_drew1 HB.out)
                 clear HO_8
                 clear BK341
                 clear BK342
                 clear BK357
                 clear HB
                 have HO_8 := n0_
                 have BK341 := n1_
                 have BK342 := n2_
                 have BK357 := n3_
                 have HB := n4_
                 clear n0_ n1_ n2_ n3_ n4_
                 have p358 : 0 ≤ (((rd_T46 ((rd_T55 l0_1 a2).f4) x9_2).f2) : Int) := of_decide_eq_true (by first | (with_reducible assumption) | assumption)
                 have q358 : ((rd_T46 ((rd_T55 l0_1 a2).f4) x9_2).f2) < (l1_1.length : Int) := of_decide_eq_true (by first | (with_reducible assumption) | assumption)
                 obtain ⟨ad358, e358, hx358_0⟩ := Kd.at_int HR1_1.out ((rd_T46 ((rd_T55 l0_1 a2).f4) x9_2).f2) p358 q358
                 have hw358_0 := hx358_0
                 cases e358
                 replace hx358_0 := (HB.out.cell (World.block_lt_of_cell? w _ hx358_0)).trans hx358_0
                 replace p358 := eq_true p358
                 replace q358 := eq_true q358
                 refine start_ (n := 11) (S := fun w' => w'.cell? ⟨gb342, 0, none⟩ = some (.slice A1_0 l1_0.length c1_0) ∧ w'.cell? ⟨gb342, 1, none⟩ = some (.slice (some ad358) l1_1.length c1_1) ∧ w'.cell? ⟨gb342, 2, none⟩ = some (.int .i64 a1_2) ∧ w'.cell? ⟨gb342, 3, none⟩ = some (.int .i64 a1_3) ∧ w'.cell? ⟨gb342, 4, none⟩ = some (.int .i64 a1_4) ∧ w'.cell? ⟨gb357, 0, none⟩ = some (.int .i64 ((rd_T46 ((rd_T55 l0_1 a2).f4) x9_2).f0)) ∧ w'.cell? ⟨gb357, 1, none⟩ = some (.int .i64 ((rd_T46 ((rd_T55 l0_1 a2).f4) x9_2).f1)) ∧ w'.cell? ⟨gb357, 2, none⟩ = some (.int .i64 ((rd_T46 ((rd_T55 l0_1 a2).f4) x9_2).f2)) ∧ w'.cell? ⟨gb357, 3, none⟩ = some (.int .i64 ((rd_T46 ((rd_T55 l0_1 a2).f4) x9_2).f3)) ∧ w'.cell? (ad358.add (((rd_T46 ((rd_T55 l0_1 a2).f4) x9_2).f2)).toNat) = some (.int .i64 (rd l1_1 ((rd_T46 ((rd_T55 l0_1 a2).f4) x9_2).f2)))) (ds := []) #[false, false, false, false, false, false, false, false, false, false, false] (by kernel_rfl) rfl rfl ⟨(blk_cell BK342.out 0).trans rfl, (blk_cell BK342.out 1).trans rfl, (blk_cell BK342.out 2).trans rfl, (blk_cell BK342.out 3).trans rfl, (blk_cell BK342.out 4).trans rfl, (blk_cell BK357.out 0).trans rfl, (blk_cell BK357.out 1).trans rfl, (blk_cell BK357.out 2).trans rfl, (blk_cell BK357.out 3).trans rfl, ((HB.out.cell (World.block_lt_of_cell? w _ hw358_0)).trans hw358_0)⟩ (fun hHeld => ?_); refine with_tabW spliceref13_Data.tab8 spliceref13_Data.bits8 (fun HT_ HW_ => ?_)
                 generalize w38.drew = w39 at HO_8 BK341 BK342 BK357 HB hx358_0 hHeld ⊢
                 refine pure_ (i := 0) (N := some 54) (v := ?_) (a' := ?_) #[true, false, false, false, false, false, false, false, false, false, false] rfl rfl (any_of HT_.out (by kernel_rfl)) (fun _ _ _ h => h) (Or.inl ⟨by rfl, ?_⟩) ?_ ?_
                 rotate_left
                 ·
                  intro w'
                  go_simp
                  with_reducible rfl
                 rotate_left
                 ·
                  simp only [Act.put, List.setIfInBounds_toArray, List.set_cons_zero, List.set_cons_succ, i64_w, i32_w]
                  rfl
                 refine pure_ (i := 2) (N := some 56) (v := ?_) (a' := ?_) #[true, false, true, false, false, false, false, false, false, false, false] rfl rfl (any_of HT_.out (by kernel_rfl)) (fun _ _ _ h => h) (Or.inl ⟨by rfl, ?_⟩) ?_ ?_
                 rotate_left
                 ·
                  intro w'
                  go_simp
                  with_reducible rfl
                 rotate_left
                 ·
                  simp only [Act.put, List.setIfInBounds_toArray, List.set_cons_zero, List.set_cons_succ, i64_w, i32_w]
                  rfl
                 refine pure_ (i := 7) (N := some 61) (v := ?_) (a' := ?_) #[true, false, true, false, false, false, false, true, false, false, false] rfl rfl (any_of HT_.out (by kernel_rfl)) (fun _ _ _ h => h) (Or.inl ⟨by rfl, ?_⟩) ?_ ?_
                 rotate_left
                 ·
                  intro w'
                  go_simp
                  with_reducible rfl
                 rotate_left
                 ·
                  simp only [Act.put, List.setIfInBounds_toArray, List.set_cons_zero, List.set_cons_succ, i64_w, i32_w]
                  rfl
                 refine take_ (i := 1) (N := some 55) (v := ?_) (a' := ?_) #[true, true, true, false, false, false, false, true, false, false, false] rfl rfl (take_ofW HT_.out HW_.out (by kernel_rfl)) (fun _ _ _ h => h) (Or.inl ⟨by rfl, ?_⟩) hHeld ?_ ?_
                 rotate_left
                 ·
                  rintro w' ⟨s0, s1, s2, s3, s4, s5, s6, s7, s8, s9⟩
                  go_simp
                  with_reducible rfl
                 rotate_left
                 ·
                  simp only [Act.put, List.setIfInBounds_toArray, List.set_cons_zero, List.set_cons_succ, i64_w, i32_w]
                  rfl
                 refine take_ (i := 3) (N := some 57) (v := ?_) (a' := ?_) #[true, true, true, true, false, false, false, true, false, false, false] rfl rfl (take_ofW HT_.out HW_.out (by kernel_rfl)) (fun _ _ _ h => h) (Or.inl ⟨by rfl, ?_⟩) hHeld ?_ ?_
                 rotate_left
                 ·
                  rintro w' ⟨s0, s1, s2, s3, s4, s5, s6, s7, s8, s9⟩
                  go_simp
                  with_reducible rfl
                 rotate_left
                 ·
                  simp only [Act.put, List.setIfInBounds_toArray, List.set_cons_zero, List.set_cons_succ, i64_w, i32_w]
                  rfl
                 refine pure_ (i := 4) (N := some 58) (v := ?_) (a' := ?_) #[true, true, true, true, true, false, false, true, false, false, false] rfl rfl (any_of HT_.out (by kernel_rfl)) (fun _ _ _ h => h) (Or.inl ⟨by rfl, ?_⟩) ?_ ?_
                 rotate_left
                 ·
                  intro w'
                  go_simp
                  with_reducible rfl
                 rotate_left
                 ·
                  simp only [Act.put, List.setIfInBounds_toArray, List.set_cons_zero, List.set_cons_succ, i64_w, i32_w]
                  rfl
                 refine take_ (i := 5) (N := some 59) (v := ?_) (a' := ?_) #[true, true, true, true, true, true, false, true, false, false, false] rfl rfl (take_ofW HT_.out HW_.out (by kernel_rfl)) (fun _ _ _ h => h) (Or.inl ⟨by rfl, ?_⟩) hHeld ?_ ?_
                 rotate_left
                 ·
                  rintro w' ⟨s0, s1, s2, s3, s4, s5, s6, s7, s8, s9⟩
                  go_simp
                  with_reducible rfl
                 rotate_left
                 ·
                  simp only [Act.put, List.setIfInBounds_toArray, List.set_cons_zero, List.set_cons_succ, i64_w, i32_w]
                  rfl
                 refine pure_ (i := 6) (N := some 60) (v := ?_) (a' := ?_) #[true, true, true, true, true, true, true, true, false, false, false] rfl rfl (any_of HT_.out (by kernel_rfl)) (fun _ _ _ h => h) (Or.inl ⟨by rfl, ?_⟩) ?_ ?_
                 rotate_left
                 ·
                  intro w'
                  go_simp
                  with_reducible rfl
                 rotate_left
                 ·
                  simp only [Act.put, List.setIfInBounds_toArray, List.set_cons_zero, List.set_cons_succ, i64_w, i32_w]
                  rfl
                 refine take_ (i := 8) (N := some 62) (v := ?_) (a' := ?_) #[true, true, true, true, true, true, true, true, true, false, false] rfl rfl (take_ofW HT_.out HW_.out (by kernel_rfl)) (fun _ _ _ h => h) (Or.inl ⟨by rfl, ?_⟩) hHeld ?_ ?_
                 rotate_left
                 ·
                  rintro w' ⟨s0, s1, s2, s3, s4, s5, s6, s7, s8, s9⟩
                  go_simp
                  with_reducible rfl
                 rotate_left
                 ·
                  simp only [Act.put, List.setIfInBounds_toArray, List.set_cons_zero, List.set_cons_succ, i64_w, i32_w]
                  rfl
                 refine pure_ (i := 9) (N := some 63) (v := ?_) (a' := ?_) #[true, true, true, true, true, true, true, true, true, true, false] rfl rfl (any_of HT_.out (by kernel_rfl)) (fun _ _ _ h => h) (Or.inl ⟨by rfl, ?_⟩) ?_ ?_
                 rotate_left
                 ·
                  intro w'
                  go_simp
                  with_reducible rfl
                 rotate_left
                 ·
                  simp only [Act.put, List.setIfInBounds_toArray, List.set_cons_zero, List.set_cons_succ, i64_w, i32_w]
                  rfl
                 refine pure_ (i := 10) (N := some 11) (v := ?_) (a' := ?_) #[true, true, true, true, true, true, true, true, true, true, true] rfl rfl (any_of HT_.out (by kernel_rfl)) (fun _ _ _ h => h) (Or.inl ⟨by rfl, ?_⟩) ?_ ?_
                 rotate_left
                 ·
                  intro w'
                  go_simp
                  with_reducible rfl
                 rotate_left
                 ·
                  simp only [Act.put, List.setIfInBounds_toArray, List.set_cons_zero, List.set_cons_succ, i64_w, i32_w]
                  rfl
                 refine done_ (done_of HT_.out (by kernel_rfl)) ?_
                 go_upto_region 9 with (fail)
                 go_cut [69] (fun v69 wc => ∃ (kq : Nat) (x69_30 : Bool), v69 = .bool x69_30 ∧ Aside0 (spliceref13_Data.j2 kq a2 x8_2 x9_2 (wrap64 ((wrap64 (65536 + (rd l1_1 ((rd_T46 ((rd_T55 l0_1 a2).f4) x9_2).f2)))) + ((rd_T46 ((rd_T55 l0_1 a2).f4) x9_2).f3))) x69_30 l0_0 l0_1 a0_2 l1_0 l1_1 a1_2 a1_3 a1_4 ((rd_T46 ((rd_T55 l0_1 a2).f4) x9_2).f0) ((rd_T46 ((rd_T55 l0_1 a2).f4) x9_2).f1) ((rd_T46 ((rd_T55 l0_1 a2).f4) x9_2).f2) ((rd_T46 ((rd_T55 l0_1 a2).f4) x9_2).f3) = some (r1, r2)) ∧ Aside0 (kq ≤ k2) ∧ Aside0 (Kd.R (Kd.int .u8) 5 wc w.heap.size (fun _ => True) (.slice Ao22 x8_2.length co22) x8_2) ∧ Aside0 (wc.heap[gb341]? = some (.cells #[(.slice A0_0 l0_0.length c0_0), (.slice (some ad346) l0_1.length c0_1), .int .i64 a0_2] 25 (0, 0))) ∧ Aside0 (wc.heap[gb342]? = some (.cells #[(.slice A1_0 l1_0.length c1_0), (.slice (some ad358) l1_1.length c1_1), .int .i64 a1_2, .int .i64 a1_3, .int .i64 a1_4] 30 (0, 0))) ∧ Aside0 (wc.heap[gb357]? = some (.cells #[.int .i64 ((rd_T46 ((rd_T55 l0_1 a2).f4) x9_2).f0), .int .i64 ((rd_T46 ((rd_T55 l0_1 a2).f4) x9_2).f1), .int .i64 ((rd_T46 ((rd_T55 l0_1 a2).f4) x9_2).f2), .int .i64 ((rd_T46 ((rd_T55 l0_1 a2).f4) x9_2).f3)] 46 (0, 0))) ∧ Aside0 (Below w.heap.size w wc))
                 case first =>
                  have H := HC31.out
                  clear HC31
                  by_cases c40 : (wrap64 ((wrap64 (65536 + (rd l1_1 ((rd_T46 ((rd_T55 l0_1 a2).f4) x9_2).f2)))) + ((rd_T46 ((rd_T55 l0_1 a2).f4) x9_2).f3))) < 0
                  ·
                   rw [if_pos c40] at H
                   have c40b0 : decide ((wrap64 ((wrap64 (65536 + (rd l1_1 ((rd_T46 ((rd_T55 l0_1 a2).f4) x9_2).f2)))) + ((rd_T46 ((rd_T55 l0_1 a2).f4) x9_2).f3))) < 0) = true := decide_eq_true c40
                   clear c40
                   (first | (generalize hb_ : decide ((wrap64 ((wrap64 (65536 + (rd l1_1 ((rd_T46 ((rd_T55 l0_1 a2).f4) x9_2).f2)))) + ((rd_T46 ((rd_T55 l0_1 a2).f4) x9_2).f3))) < 0) = bb_ at *; subst c40b0; have c40b0 := hb_; clear hb_) | rw [c40b0] | (simp only [i64_w, i32_w]; rw [c40b0]) | skip)
                   have H' := Aside0.mk H
                   clear H
                   go_wp2
                   go_meet
                   case rel => exact ⟨_, (true), (by first | rfl | (simp; done) | (simp [*]; done)), H', ⟨by have := HK1.out; have := HK2.out; first | omega | exact Nat.le_refl _⟩, ⟨by (try simp only [hl8_2]); (with_reducible repeat (first | apply Kd.R_alloc | apply Kd.R_drewN | apply Kd.R_drew)); exact HO_8.out⟩, ⟨by (try simp only [hl8_2]); (try apply_rules (transparency := .reducible) only [blk_drewN, blk_drew, blk_alloc]); exact BK341.out⟩, ⟨by (try simp only [hl8_2]); (try apply_rules (transparency := .reducible) only [blk_drewN, blk_drew, blk_alloc]); exact BK342.out⟩, ⟨by (try simp only [hl8_2]); (try apply_rules (transparency := .reducible) only [blk_drewN, blk_drew, blk_alloc]); exact BK357.out⟩, ⟨by apply_rules (transparency := .reducible) only [HB.out, below_alloc, pw_below_drewN, below_drew1, below_set, GE341.out, GE342.out, GE357.out]⟩⟩
                  ·
                   rw [if_neg c40] at H
                   have c40b0 : decide ((wrap64 ((wrap64 (65536 + (rd l1_1 ((rd_T46 ((rd_T55 l0_1 a2).f4) x9_2).f2)))) + ((rd_T46 ((rd_T55 l0_1 a2).f4) x9_2).f3))) < 0) = false := decide_eq_false c40
                   clear c40
                   (first | (generalize hb_ : decide ((wrap64 ((wrap64 (65536 + (rd l1_1 ((rd_T46 ((rd_T55 l0_1 a2).f4) x9_2).f2)))) + ((rd_T46 ((rd_T55 l0_1 a2).f4) x9_2).f3))) < 0) = bb_ at *; subst c40b0; have c40b0 := hb_; clear hb_) | rw [c40b0] | (simp only [i64_w, i32_w]; rw [c40b0]) | skip)
                   have H' := Aside0.mk H
                   clear H
                   go_wp2
                   go_meet
                   case rel => exact ⟨_, (decide ((wrap64 ((wrap64 (65536 + (rd l1_1 ((rd_T46 ((rd_T55 l0_1 a2).f4) x9_2).f2)))) + ((rd_T46 ((rd_T55 l0_1 a2).f4) x9_2).f3))) > 4294967295)), (by first | rfl | (simp; done) | (simp [*]; done)), H', ⟨by have := HK1.out; have := HK2.out; first | omega | exact Nat.le_refl _⟩, ⟨by (try simp only [hl8_2]); (with_reducible repeat (first | apply Kd.R_alloc | apply Kd.R_drewN | apply Kd.R_drew)); exact HO_8.out⟩, ⟨by (try simp only [hl8_2]); (try apply_rules (transparency := .reducible) only [blk_drewN, blk_drew, blk_alloc]); exact BK341.out⟩, ⟨by (try simp only [hl8_2]); (try apply_rules (transparency := .reducible) only [blk_drewN, blk_drew, blk_alloc]); exact BK342.out⟩, ⟨by (try simp only [hl8_2]); (try apply_rules (transparency := .reducible) only [blk_drewN, blk_drew, blk_alloc]); exact BK357.out⟩, ⟨by apply_rules (transparency := .reducible) only [HB.out, below_alloc, pw_below_drewN, below_drew1, below_set, GE341.out, GE342.out, GE357.out]⟩⟩
                 case rest =>
                  clear HC31
                  (try clear c1); (try clear c2); (try clear p2); (try clear c3); (try clear p3); (try clear q3); (try clear hx3); (try clear c4); (try clear c4b0); (try clear c5); (try clear c5b0); (try clear c6); (try clear p6); (try clear c11); (try clear c14); (try clear c14b0); (try clear c15); (try clear c15b0); (try clear c16); (try clear c16b0); (try clear c17); (try clear c19); (try clear c23); (try clear c25); (try clear c25b0); (try clear c26); (try clear c26b0); (try clear c27); (try clear c27b0); (try clear c28); (try clear c28b0); (try clear c29); (try clear c29b0); (try clear c30); (try clear c30b0); (try clear c32); (try clear c34); (try clear p34); (try clear q34); (try clear hx34); (try clear c35); (try clear p35); (try clear q35); (try clear hx35); (try clear c36); (try clear c40); (try clear c40b0); (try clear hcz12_0); (try clear hcz12_1); (try clear hcz12_2); (try clear hcz20_0); (try clear hcz20_1); (try clear hcz20_2); (try clear hcz24_0); (try clear hcz24_1); (try clear hcz24_2); (try clear hcz33_0); (try clear hcz33_1); (try clear hcz33_2); (try clear hcz37_0); (try clear hcz37_1); (try clear hcz37_2); (try clear hcz37_3); (try clear hfz12_0); (try clear hfz12_1); (try clear hfz12_2); (try clear hfz20_0); (try clear hfz20_1); (try clear hfz20_2); (try clear hfz24_0); (try clear hfz24_1); (try clear hfz24_2); (try clear hfz33_0); (try clear hfz33_1); (try clear hfz33_2); (try clear hfz37_0); (try clear hfz37_1); (try clear hfz37_2); (try clear hfz37_3); (try clear hx346_0); (try clear hx346_1); (try clear hx346_2); (try clear hx346_3); (try clear hx346_4); (try clear hx350_0); (try clear hx350_1); (try clear hx350_2); (try clear hx350_3); (try clear hx350_4); (try clear hx354_0); (try clear hx354_1); (try clear hx354_2); (try clear hx354_3); (try clear hx354_4); (try clear hx355_0); (try clear hx355_1); (try clear hx355_2); (try clear hx355_3); (try clear hx355_4); (try clear hx356_0); (try clear hx356_1); (try clear hx356_2); (try clear hx356_3); (try clear hx358_0)
                  (try clear p2); (try clear p3); (try clear p346); (try clear p350); (try clear p354); (try clear p355); (try clear p356); (try clear p358); (try clear q3); (try clear q346); (try clear q350); (try clear q354); (try clear q355); (try clear q356); (try clear q358)
                  obtain ⟨kq, x69_30, rfl, HA, HJ30, HO_8, BK341, BK342, BK357, HB⟩ := hcut
                  cases kq with
                  | zero => exact absurd HA.out (by simp [spliceref13_Data.j2])
                  | succ kj30 =>
                   have H := HA.out
                   clear HA
                   simp only [spliceref13_Data.j2] at H
                   by_cases c41 : x69_30 = true
                   ·
                    subst c41
                    rw [if_pos rfl] at H
                    simp only [Option.some.injEq, Prod.mk.injEq] at H
                    obtain ⟨rfl, rfl⟩ := H
                    go_wp2
                    go_ret2
                    exact ⟨_, by first | rfl | (simp [errW_none, errW_some] <;> rfl) | (simp [*, errW_none, errW_some] <;> rfl), by first | exact Kd.R_nil _ _ _ _ _ | exact Kd.N_nil _ _ _ _ _ | exact Kd.V_nil _ _ _ _ _ | exact Kd.Q_nil _ _ _ _ _ | exact Kd.S_nil _ _ _ _ _, by apply_rules (transparency := .reducible) only [HB.out, below_alloc, pw_below_drewN, below_drew1, below_set, GE341.out, GE342.out, GE357.out]⟩
                   ·
                    replace c41 := Bool.eq_false_iff.mpr c41
                    subst c41
                    rw [if_neg Bool.false_ne_true] at H
                    replace H := Option.bind_eq_some_iff.mp H
                    obtain ⟨t359, A420, H⟩ := H
                    try dsimp only at H
                    have A42 := Aside0.mk A420
                    clear A420
                    have H' := Aside0.mk H
                    clear H
                    go_wp2_with (first | ((with_reducible refine gate_callee (f := 32) rfl ?_); refine goesL_ (some 72) rfl rfl Try.func32 (by kernel_rfl) rfl #[.int .u32 (((wrap64 ((wrap64 (65536 + (rd l1_1 ((rd_T46 ((rd_T55 l0_1 a2).f4) x9_2).f2)))) + ((rd_T46 ((rd_T55 l0_1 a2).f4) x9_2).f3)))) % 4294967296)] rfl (by (try simp only [List.map_toArray, List.map_cons, List.map_nil]); first | done | rfl | (simp only [List.length_drop, List.length_take]; rfl)) ?_; (with_reducible refine (spliceref01_Put.calls (((wrap64 ((wrap64 (65536 + (rd l1_1 ((rd_T46 ((rd_T55 l0_1 a2).f4) x9_2).f2)))) + ((rd_T46 ((rd_T55 l0_1 a2).f4) x9_2).f3)))) % 4294967296) t359 _ A42.out).mono ?_); rintro e w43 ⟨v360, rfl, ho0, hb⟩; refine ⟨_, rfl, ?_⟩; have n0_ := Aside0.mk (Kd.R_elder' (by (with_reducible repeat (first | apply Kd.R_alloc | apply Kd.R_drewN | apply Kd.R_drew)); exact HO_8.out) (Kd.R_base ho0) hb); have n1_ := Aside0.mk (Kd.R_lower (Kd.R_new' ho0 (Kd.R_lt (by (with_reducible repeat (first | apply Kd.R_alloc | apply Kd.R_drewN | apply Kd.R_drew)); exact HO_8.out))) (below_size (by apply_rules (transparency := .reducible) only [HB.out, below_alloc, pw_below_drewN, below_drew1, below_set, GE341.out, GE342.out, GE357.out]))); have n2_ := Aside0.mk (blk_below (g := gb341) (o := .cells #[.slice A0_0 l0_0.length c0_0, .slice (some ad346) l0_1.length c0_1, .int .i64 a0_2] 25 (0, 0)) (by apply_rules (transparency := .reducible) only [blk_drewN, blk_drew, blk_alloc, BK341.out]) hb); have n3_ := Aside0.mk (blk_below (g := gb342) (o := .cells #[.slice A1_0 l1_0.length c1_0, .slice (some ad358) l1_1.length c1_1, .int .i64 a1_2, .int .i64 a1_3, .int .i64 a1_4] 30 (0, 0)) (by apply_rules (transparency := .reducible) only [blk_drewN, blk_drew, blk_alloc, BK342.out]) hb); have n4_ := Aside0.mk (blk_below (g := gb357) (o := .cells #[.int .i64 ((rd_T46 ((rd_T55 l0_1 a2).f4) x9_2).f0), .int .i64 ((rd_T46 ((rd_T55 l0_1 a2).f4) x9_2).f1), .int .i64 ((rd_T46 ((rd_T55 l0_1 a2).f4) x9_2).f2), .int .i64 ((rd_T46 ((rd_T55 l0_1 a2).f4) x9_2).f3)] 46 (0, 0)) (by apply_rules (transparency := .reducible) only [blk_drewN, blk_drew, blk_alloc, BK357.out]) hb); have n5_ := Aside0.mk (below_step (by apply_rules (transparency := .reducible) only [HB.out, below_alloc, pw_below_drewN, below_drew1, below_set, GE341.out, GE342.out, GE357.out]) hb); clear HO_8; clear BK341; clear BK342; clear BK357; clear HB; have HO_8 := n0_; have HO361 := n1_; have BK341 := n2_; have BK342 := n3_; have BK357 := n4_; have HB := n5_; clear n0_ n1_ n2_ n3_ n4_ n5_; (try clear hb); (try clear hb2); (try clear hk); (try clear hi); (try clear ho0)))
                    go_loopg [13] kj30 (fun kq v13 w' => ∃ (x8_4 : List Int) (x13_4 : Int), v13 = .int .i64 x13_4 ∧ Aside0 (spliceref13_Data.l2 kq a2 x8_4 x9_2 t359 x13_4 l0_0 l0_1 a0_2 l1_0 l1_1 a1_2 a1_3 a1_4 ((rd_T46 ((rd_T55 l0_1 a2).f4) x9_2).f0) ((rd_T46 ((rd_T55 l0_1 a2).f4) x9_2).f1) ((rd_T46 ((rd_T55 l0_1 a2).f4) x9_2).f2) ((rd_T46 ((rd_T55 l0_1 a2).f4) x9_2).f3) = some (r1, r2)) ∧ Aside0 (kq ≤ kj30) ∧ Aside0 (Kd.R (Kd.int .u8) 5 w' w.heap.size (fun k_ => some k_ ≠ (v360 : Value).ownBlock) (.slice Ao22 x8_2.length co22) x8_4) ∧ Aside0 (Kd.R (Kd.int .u8) 5 w' w.heap.size (fun k_ => some k_ ≠ ((.slice Ao22 x8_2.length co22) : Value).ownBlock) v360 t359) ∧ Aside0 (w'.heap[gb341]? = some (.cells #[(.slice A0_0 l0_0.length c0_0), (.slice (some ad346) l0_1.length c0_1), .int .i64 a0_2] 25 (0, 0))) ∧ Aside0 (w'.heap[gb342]? = some (.cells #[(.slice A1_0 l1_0.length c1_0), (.slice (some ad358) l1_1.length c1_1), .int .i64 a1_2, .int .i64 a1_3, .int .i64 a1_4] 30 (0, 0))) ∧ Aside0 (w'.heap[gb357]? = some (.cells #[.int .i64 ((rd_T46 ((rd_T55 l0_1 a2).f4) x9_2).f0), .int .i64 ((rd_T46 ((rd_T55 l0_1 a2).f4) x9_2).f1), .int .i64 ((rd_T46 ((rd_T55 l0_1 a2).f4) x9_2).f2), .int .i64 ((rd_T46 ((rd_T55 l0_1 a2).f4) x9_2).f3)] 46 (0, 0))) ∧ Aside0 (Below w.heap.size w w'))
                    case atStart => exact ⟨(x8_2), (0), (by first | rfl | (simp; done) | (simp [*]; done)), H', ⟨Nat.le_refl _⟩, ⟨by (try simp only [hl8_2]); (with_reducible repeat (first | apply Kd.R_alloc | apply Kd.R_drewN | apply Kd.R_drew)); exact Kd.R_mono HO_8.out (fun _ hk => hk.2)⟩, ⟨by (try simp only [hl8_2]); (with_reducible repeat (first | apply Kd.R_alloc | apply Kd.R_drewN | apply Kd.R_drew)); exact Kd.R_mono HO361.out (fun _ hk => hk.2)⟩, ⟨by (try simp only [hl8_2]); (try apply_rules (transparency := .reducible) only [blk_drewN, blk_drew, blk_alloc]); exact BK341.out⟩, ⟨by (try simp only [hl8_2]); (try apply_rules (transparency := .reducible) only [blk_drewN, blk_drew, blk_alloc]); exact BK342.out⟩, ⟨by (try simp only [hl8_2]); (try apply_rules (transparency := .reducible) only [blk_drewN, blk_drew, blk_alloc]); exact BK357.out⟩, ⟨by apply_rules (transparency := .reducible) only [HB.out, below_alloc, pw_below_drewN, below_drew1, below_set, GE341.out, GE342.out, GE357.out]⟩⟩
                    case round =>
                     clear H'
                     (try clear c1); (try clear c2); (try clear p2); (try clear c3); (try clear p3); (try clear q3); (try clear hx3); (try clear c4); (try clear c4b0); (try clear c5); (try clear c5b0); (try clear c6); (try clear p6); (try clear c11); (try clear c14); (try clear c14b0); (try clear c15); (try clear c15b0); (try clear c16); (try clear c16b0); (try clear c17); (try clear c19); (try clear c23); (try clear c25); (try clear c25b0); (try clear c26); (try clear c26b0); (try clear c27); (try clear c27b0); (try clear c28); (try clear c28b0); (try clear c29); (try clear c29b0); (try clear c30); (try clear c30b0); (try clear c32); (try clear c34); (try clear p34); (try clear q34); (try clear hx34); (try clear c35); (try clear p35); (try clear q35); (try clear hx35); (try clear c36); (try clear c40); (try clear c40b0); (try clear c41); (try clear hcz12_0); (try clear hcz12_1); (try clear hcz12_2); (try clear hcz20_0); (try clear hcz20_1); (try clear hcz20_2); (try clear hcz24_0); (try clear hcz24_1); (try clear hcz24_2); (try clear hcz33_0); (try clear hcz33_1); (try clear hcz33_2); (try clear hcz37_0); (try clear hcz37_1); (try clear hcz37_2); (try clear hcz37_3); (try clear hfz12_0); (try clear hfz12_1); (try clear hfz12_2); (try clear hfz20_0); (try clear hfz20_1); (try clear hfz20_2); (try clear hfz24_0); (try clear hfz24_1); (try clear hfz24_2); (try clear hfz33_0); (try clear hfz33_1); (try clear hfz33_2); (try clear hfz37_0); (try clear hfz37_1); (try clear hfz37_2); (try clear hfz37_3); (try clear hx346_0); (try clear hx346_1); (try clear hx346_2); (try clear hx346_3); (try clear hx346_4); (try clear hx350_0); (try clear hx350_1); (try clear hx350_2); (try clear hx350_3); (try clear hx350_4); (try clear hx354_0); (try clear hx354_1); (try clear hx354_2); (try clear hx354_3); (try clear hx354_4); (try clear hx355_0); (try clear hx355_1); (try clear hx355_2); (try clear hx355_3); (try clear hx355_4); (try clear hx356_0); (try clear hx356_1); (try clear hx356_2); (try clear hx356_3)
                     (try clear hx358_0); (try clear p2); (try clear p3); (try clear p34); (try clear p346); (try clear p35); (try clear p350); (try clear p354); (try clear p355); (try clear p356); (try clear p358); (try clear p6); (try clear q3); (try clear q34); (try clear q346); (try clear q35); (try clear q350); (try clear q354); (try clear q355); (try clear q356); (try clear q358)
                     obtain ⟨x8_4, x13_4, rfl, HA, HK4, HO_8, HO_12, BK341, BK342, BK357, HB⟩ := hrel
                     have hl8_4 := (Kd.R_reads' HO_8.out).1
                     rw [hl8_4] at HO_8
                     (try simp only [hl8_4])
                     (try simp only [hl8_4] at BK341)
                     (try simp only [hl8_4] at BK342)
                     (try simp only [hl8_4] at BK357)
                     (try simp only [hl8_4] at HO_12)
                     cases gk with
                     | zero => exact absurd HA.out (by simp [spliceref13_Data.l2])
                     | succ k4 =>
                      have H := HA.out
                      clear HA
                      simp only [spliceref13_Data.l2] at H
                      by_cases c44 : x13_4 < 4
                      ·
                       rw [if_pos c44] at H
                       have c44b0 : decide (x13_4 < 4) = true := decide_eq_true c44
                       clear c44
                       by_cases c45 : 0 ≤ x13_4
                       ·
                        rw [if_pos c45] at H
                        have c45b0 : decide (0 ≤ x13_4) = true := decide_eq_true c45
                        clear c45
                        by_cases c46 : x13_4 < (t359.length : Int)
                        ·
                         rw [if_pos c46] at H
                         have c46b0 : decide (x13_4 < (t359.length : Int)) = true := decide_eq_true c46
                         (try (have c46b0x := c46b0; simp only [hl8_2, hl8_4] at c46b0x))
                         clear c46
                         obtain ⟨ji47, hji47⟩ : ∃ j_ : Int, (wrap64 (((rd_T46 ((rd_T55 l0_1 a2).f4) x9_2).f0) + x13_4)) = j_ := ⟨_, rfl⟩
                         replace H : (if 0 ≤ (ji47) then (if (ji47) < (x8_4.length : Int) then (spliceref13_Data.l2 k4 a2 (x8_4.set ((ji47) : Int).toNat (rd t359 x13_4)) x9_2 t359 (wrap64 (x13_4 + 1)) l0_0 l0_1 a0_2 l1_0 l1_1 a1_2 a1_3 a1_4 ((rd_T46 ((rd_T55 l0_1 a2).f4) x9_2).f0) ((rd_T46 ((rd_T55 l0_1 a2).f4) x9_2).f1) ((rd_T46 ((rd_T55 l0_1 a2).f4) x9_2).f2) ((rd_T46 ((rd_T55 l0_1 a2).f4) x9_2).f3)) else (none)) else (none)) = some (r1, r2) := by first | (rw [hji47] at H; exact H) | (simp only [hji47] at H ⊢; exact H)
                         have hji47w : (IntKind.i64.wrap (((rd_T46 ((rd_T55 l0_1 a2).f4) x9_2).f0) + x13_4)) = ji47 := (i64_w _).trans hji47
                         by_cases c48 : 0 ≤ (ji47)
                         ·
                          rw [if_pos c48] at H
                          have c48b0 : decide (0 ≤ (ji47)) = true := decide_eq_true c48
                          clear c48
                          by_cases c49 : (ji47) < (x8_4.length : Int)
                          ·
                           rw [if_pos c49] at H
                           have c49b0 : decide ((ji47) < (x8_4.length : Int)) = true := decide_eq_true c49
                           (try (have c49b0x := c49b0; simp only [hl8_2, hl8_4] at c49b0x))
                           clear c49
                           obtain ⟨y363, hy363⟩ : ∃ y_ : List Int, y_ = (x8_4.set ((ji47) : Int).toNat (rd t359 x13_4)) := ⟨_, rfl⟩
                           replace H : (spliceref13_Data.l2 k4 a2 y363 x9_2 t359 (wrap64 (x13_4 + 1)) l0_0 l0_1 a0_2 l1_0 l1_1 a1_2 a1_3 a1_4 ((rd_T46 ((rd_T55 l0_1 a2).f4) x9_2).f0) ((rd_T46 ((rd_T55 l0_1 a2).f4) x9_2).f1) ((rd_T46 ((rd_T55 l0_1 a2).f4) x9_2).f2) ((rd_T46 ((rd_T55 l0_1 a2).f4) x9_2).f3)) = some (r1, r2) := by first | (rw [hy363]; with_reducible exact H) | (have H2_ := (Option.bind_some _ _).symm.trans H; rw [hy363]; with_reducible exact H2_) | (have H2_ := (Option.bind_some _ _).symm.trans H; with_reducible exact H2_) | with_reducible exact H | (rw [hy363]; exact H) | exact H
                           have Ny363 := Aside0.mk hy363
                           clear hy363
                           have H' := Aside0.mk H
                           clear H
                           try go_wp2
                           have n0_ := Aside0.mk (Kd.R_drew HO_8.out)
                           have n1_ := Aside0.mk (Kd.R_drew HO_12.out)
                           have n2_ := Aside0.mk (blk_drew BK341.out)
                           have n3_ := Aside0.mk (blk_drew BK342.out)
                           have n4_ := Aside0.mk (blk_drew BK357.out)
                           have n5_ := Aside0.mk (below_drew1 HB.out)
                           clear HO_8
                           clear HO_12
                           clear BK341
                           clear BK342
                           clear BK357
                           clear HB
                           have HO_8 := n0_
                           have HO_12 := n1_
                           have BK341 := n2_
                           have BK342 := n3_
                           have BK357 := n4_
                           have HB := n5_
                           clear n0_ n1_ n2_ n3_ n4_ n5_
                           obtain ⟨Ao52, co52, eo52⟩ := Kd.R_slice HO_12.out
                           (first | subst eo52 | (injection eo52 with f1_ f2_ f3_; have f4_ := f1_.symm; have f5_ := f3_.symm; clear f1_ f2_ f3_; subst f4_; subst f5_))
                           have p362 : 0 ≤ (x13_4 : Int) := of_decide_eq_true (by first | (with_reducible assumption) | assumption)
                           have q362 : x13_4 < (t359.length : Int) := of_decide_eq_true (by first | (with_reducible assumption) | assumption)
                           obtain ⟨ad362, e362, hx362_0⟩ := Kd.at_int (Kd.R_reads' HO_12.out).2.2 x13_4 p362 q362
                           cases e362
                           replace p362 := eq_true p362
                           replace q362 := eq_true q362
                           have p50 : 0 ≤ ((ji47) : Int) := of_decide_eq_true (by first | (with_reducible assumption) | assumption)
                           have q50 : ((ji47) : Int) < ((x8_4.length : Int) : Int) := of_decide_eq_true (by first | (with_reducible assumption) | assumption)
                           obtain ⟨go50, co50, eo50, gb50, gl50, cl50, HG50⟩ := Kd.R_form HO_8.out (by omega)
                           (first | cases eo50 | (injection eo50 with ea_ en_ ec_; (first | subst ea_ | (injection ea_ with ea_; subst ea_)); subst ec_; clear en_))
                           have GB50 := Aside0.mk gb50
                           have GG50 := Aside0.mk HG50
                           clear gb50 gl50 HG50
                           obtain ⟨hx50_0, hf50_0⟩ := Kd.R_celln 0 HO_8.out ((ji47) : Int) p50 q50
                           replace p50 := eq_true p50
                           replace q50 := eq_true q50
                           have HP53 := Kd.R_putn HO_8.out ((ji47) : Int) (rd t359 x13_4)
                           rw [← Ny363.out] at HP53
                           have HQ53 := Aside0.mk HP53
                           clear HP53
                           refine start_ (n := 11) (S := fun w' => w'.cell? ⟨gb357, 0, none⟩ = some (.int .i64 ((rd_T46 ((rd_T55 l0_1 a2).f4) x9_2).f0)) ∧ w'.cell? ⟨gb357, 1, none⟩ = some (.int .i64 ((rd_T46 ((rd_T55 l0_1 a2).f4) x9_2).f1)) ∧ w'.cell? ⟨gb357, 2, none⟩ = some (.int .i64 ((rd_T46 ((rd_T55 l0_1 a2).f4) x9_2).f2)) ∧ w'.cell? ⟨gb357, 3, none⟩ = some (.int .i64 ((rd_T46 ((rd_T55 l0_1 a2).f4) x9_2).f3)) ∧ w'.cell? (ad362.add (x13_4).toNat) = some (.int .u8 (rd t359 x13_4))) (ds := [10]) #[false, false, false, false, false, false, false, false, false, false, false] (by kernel_rfl) rfl rfl ⟨(blk_cell BK357.out 0).trans rfl, (blk_cell BK357.out 1).trans rfl, (blk_cell BK357.out 2).trans rfl, (blk_cell BK357.out 3).trans rfl, hx362_0⟩ (fun hHeld => ?_); refine with_tabW spliceref13_Data.tab15 spliceref13_Data.bits15 (fun HT_ HW_ => ?_)
                           generalize wr.drew = w51 at HO_8 HO_12 BK341 BK342 BK357 HB GG50 HQ53 hf50_0 hx362_0 hx50_0 hHeld ⊢
                           refine pure_ (i := 0) (N := some 77) (v := ?_) (a' := ?_) #[true, false, false, false, false, false, false, false, false, false, false] rfl rfl (any_of HT_.out (by kernel_rfl)) (fun _ _ _ h => h) (Or.inl ⟨by rfl, ?_⟩) ?_ ?_
                           rotate_left
                           ·
                            intro w'
                            go_simp
                            with_reducible rfl
                           rotate_left
                           ·
                            simp only [Act.put, List.setIfInBounds_toArray, List.set_cons_zero, List.set_cons_succ, i64_w, i32_w]
                            rfl
                           refine pure_ (i := 1) (N := some 78) (v := ?_) (a' := ?_) #[true, true, false, false, false, false, false, false, false, false, false] rfl rfl (any_of HT_.out (by kernel_rfl)) (fun _ _ _ h => h) (Or.inl ⟨by rfl, ?_⟩) ?_ ?_
                           rotate_left
                           ·
                            intro w'
                            go_simp
                            with_reducible rfl
                           rotate_left
                           ·
                            simp only [Act.put, List.setIfInBounds_toArray, List.set_cons_zero, List.set_cons_succ, i64_w, i32_w]
                            rfl
                           refine pure_ (i := 3) (N := some 80) (v := ?_) (a' := ?_) #[true, true, false, true, false, false, false, false, false, false, false] rfl rfl (any_of HT_.out (by kernel_rfl)) (fun _ _ _ h => h) (Or.inl ⟨by rfl, ?_⟩) ?_ ?_
                           rotate_left
                           ·
                            intro w'
                            go_simp
                            with_reducible rfl
                           rotate_left
                           ·
                            simp only [Act.put, List.setIfInBounds_toArray, List.set_cons_zero, List.set_cons_succ, i64_w, i32_w]
                            rfl
                           refine pure_ (i := 5) (N := some 82) (v := ?_) (a' := ?_) #[true, true, false, true, false, true, false, false, false, false, false] rfl rfl (any_of HT_.out (by kernel_rfl)) (fun _ _ _ h => h) (Or.inl ⟨by rfl, ?_⟩) ?_ ?_
                           rotate_left
                           ·
                            intro w'
                            go_simp
                            with_reducible rfl
                           rotate_left
                           ·
                            simp only [Act.put, List.setIfInBounds_toArray, List.set_cons_zero, List.set_cons_succ, i64_w, i32_w]
                            rfl
                           refine pure_ (i := 6) (N := some 83) (v := ?_) (a' := ?_) #[true, true, false, true, false, true, true, false, false, false, false] rfl rfl (any_of HT_.out (by kernel_rfl)) (fun _ _ _ h => h) (Or.inl ⟨by rfl, ?_⟩) ?_ ?_
                           rotate_left
                           ·
                            intro w'
                            go_simp
                            with_reducible rfl
                           rotate_left
                           ·
                            simp only [Act.put, List.setIfInBounds_toArray, List.set_cons_zero, List.set_cons_succ, i64_w, i32_w]
                            rfl
                           refine pure_ (i := 7) (N := some 84) (v := ?_) (a' := ?_) #[true, true, false, true, false, true, true, true, false, false, false] rfl rfl (any_of HT_.out (by kernel_rfl)) (fun _ _ _ h => h) (Or.inl ⟨by rfl, ?_⟩) ?_ ?_
                           rotate_left
                           ·
                            intro w'
                            go_simp
                            with_reducible rfl
                           rotate_left
                           ·
                            simp only [Act.put, List.setIfInBounds_toArray, List.set_cons_zero, List.set_cons_succ, i64_w, i32_w]
                            rfl
                           refine take_ (i := 2) (N := some 79) (v := ?_) (a' := ?_) #[true, true, true, true, false, true, true, true, false, false, false] rfl rfl (take_ofW HT_.out HW_.out (by kernel_rfl)) (fun _ _ _ h => h) (Or.inl ⟨by rfl, ?_⟩) hHeld ?_ ?_
                           rotate_left
                           ·
                            rintro w' ⟨s0, s1, s2, s3, s4⟩
                            go_simp
                            with_reducible rfl
                           rotate_left
                           ·
                            simp only [Act.put, List.setIfInBounds_toArray, List.set_cons_zero, List.set_cons_succ, i64_w, i32_w]
                            rfl
                           refine pure_ (i := 4) (N := some 81) (v := ?_) (a' := ?_) #[true, true, true, true, true, true, true, true, false, false, false] rfl rfl (any_of HT_.out (by kernel_rfl)) (fun _ _ _ h => h) (Or.inl ⟨by rfl, ?_⟩) ?_ ?_
                           rotate_left
                           ·
                            intro w'
                            go_simp
                            with_reducible rfl
                           rotate_left
                           ·
                            simp only [Act.put, List.setIfInBounds_toArray, List.set_cons_zero, List.set_cons_succ, i64_w, i32_w]
                            rfl
                           refine take_ (i := 8) (N := some 85) (v := ?_) (a' := ?_) #[true, true, true, true, true, true, true, true, true, false, false] rfl rfl (take_ofW HT_.out HW_.out (by kernel_rfl)) (fun _ _ _ h => h) (Or.inl ⟨by rfl, ?_⟩) hHeld ?_ ?_
                           rotate_left
                           ·
                            rintro w' ⟨s0, s1, s2, s3, s4⟩
                            go_simp
                            with_reducible rfl
                           rotate_left
                           ·
                            simp only [Act.put, List.setIfInBounds_toArray, List.set_cons_zero, List.set_cons_succ, i64_w, i32_w]
                            rfl
                           refine pure_ (i := 9) (N := some 86) (v := ?_) (a' := ?_) #[true, true, true, true, true, true, true, true, true, true, false] rfl rfl (any_of HT_.out (by kernel_rfl)) (fun _ _ _ h => h) (Or.inl ⟨by rfl, ?_⟩) ?_ ?_
                           rotate_left
                           ·
                            intro w'
                            go_simp
                            with_reducible rfl
                           rotate_left
                           ·
                            simp only [Act.put, List.setIfInBounds_toArray, List.set_cons_zero, List.set_cons_succ, i64_w, i32_w]
                            rfl
                           refine last_ (i := 10) (N := none) #[true, true, true, true, true, true, true, true, true, true, true] rfl rfl (one_of HT_.out (by kernel_rfl)) (by decide) (fun K hK => ?_)
                           refine skip_ (w1 := ?_) (by rfl) rfl ?_ ?_
                           rotate_left
                           ·
                            go_simp
                            rfl
                           refine hK.out _ _ ?_
                           clear hK K
                           refine done_ (done_of HT_.out (by kernel_rfl)) ?_
                           try go_wp2
                           (try simp only [← hl8_4])
                           go_roundg k4
                           case measure => have := HK1.out; have := HK2.out; have := HJ30.out; have := HK4.out; omega
                           case rel => exact ⟨(y363), (wrap64 (x13_4 + 1)), (by first | rfl | (simp; done) | (simp [*]; done)), H', ⟨by have := HK1.out; have := HK2.out; have := HJ30.out; have := HK4.out; omega⟩, ⟨by (try simp only [hl8_2]); (try simp only [hl8_4]); (with_reducible repeat (first | apply Kd.R_alloc | apply Kd.R_drewN | apply Kd.R_drew)); exact HQ53.out⟩, ⟨by (try simp only [hl8_2]); (try simp only [hl8_4]); (with_reducible repeat (first | apply Kd.R_alloc | apply Kd.R_drewN | apply Kd.R_drew)); exact Kd.R_mono (Kd.R_far (p := ⟨go50, ((ji47) : Int).toNat, none⟩) (Kd.R_mono HO_12.out (fun k_ hk => (⟨hk, fun e_ => hk (by rw [e_]; rfl)⟩ : _ ∧ k_ ≠ go50))) (fun _ hk => hk.2) (.int .u8 (rd t359 x13_4))) (fun _ hk => hk.1)⟩, ⟨by (try simp only [hl8_2]); (try simp only [hl8_4]); (try apply_rules (transparency := .reducible) only [blk_drewN, blk_drew, blk_alloc]); refine blk_far ?_ (by have h_ := Kd.R_ne HO_8.out BK341.out (by decide); intro e_; exact h_ (by rw [e_]; rfl)) _; (try apply_rules (transparency := .reducible) only [blk_drewN, blk_drew, blk_alloc]); exact BK341.out⟩, ⟨by (try simp only [hl8_2]); (try simp only [hl8_4]); (try apply_rules (transparency := .reducible) only [blk_drewN, blk_drew, blk_alloc]); refine blk_far ?_ (by have h_ := Kd.R_ne HO_8.out BK342.out (by decide); intro e_; exact h_ (by rw [e_]; rfl)) _; (try apply_rules (transparency := .reducible) only [blk_drewN, blk_drew, blk_alloc]); exact BK342.out⟩, ⟨by (try simp only [hl8_2]); (try simp only [hl8_4]); (try apply_rules (transparency := .reducible) only [blk_drewN, blk_drew, blk_alloc]); refine blk_far ?_ (by have h_ := Kd.R_ne HO_8.out BK357.out (by decide); intro e_; exact h_ (by rw [e_]; rfl)) _; (try apply_rules (transparency := .reducible) only [blk_drewN, blk_drew, blk_alloc]); exact BK357.out⟩, ⟨by repeat (first | (with_reducible first | exact HB.out | apply below_alloc | apply pw_below_drewN | apply below_drew1 | refine below_set ?_ GB50.out | refine below_set ?_ GE341.out | refine below_set ?_ GE342.out | refine below_set ?_ GE357.out) | exact HB.out)⟩⟩
                          ·
                           rw [if_neg c49] at H
                           exact absurd H (by simp)
                         ·
                          rw [if_neg c48] at H
                          exact absurd H (by simp)
                        ·
                         rw [if_neg c46] at H
                         exact absurd H (by simp)
                       ·
                        rw [if_neg c45] at H
                        exact absurd H (by simp)
                      ·
                       rw [if_neg c44] at H
                       have c44b0 : decide (x13_4 < 4) = false := decide_eq_false c44
                       clear c44
                       have H' := Aside0.mk H
                       clear H
                       go_wp2
                       (try simp only [← hl8_2, ← hl8_4])
                       go_roundg k4
                       case measure => have := HK1.out; have := HK2.out; have := HJ30.out; have := HK4.out; omega
                       case rel => exact ⟨(x8_4), (wrap64 (x9_2 + 1)), (by first | rfl | (simp; done) | (simp [*]; done)), H', ⟨by have := HK1.out; have := HK2.out; have := HJ30.out; have := HK4.out; omega⟩, ⟨by (try simp only [hl8_2]); (try simp only [hl8_4]); (with_reducible repeat (first | apply Kd.R_alloc | apply Kd.R_drewN | apply Kd.R_drew)); exact Kd.R_mono HO_8.out (fun _ hk => trivial)⟩, ⟨by (try simp only [hl8_2]); (try simp only [hl8_4]); (try apply_rules (transparency := .reducible) only [blk_drewN, blk_drew, blk_alloc]); exact BK341.out⟩, ⟨by (try simp only [hl8_2]); (try simp only [hl8_4]); (try apply_rules (transparency := .reducible) only [blk_drewN, blk_drew, blk_alloc]); exact BK342.out⟩, ⟨by apply_rules (transparency := .reducible) only [HB.out, below_alloc, pw_below_drewN, below_drew1, below_set, GE341.out, GE342.out, GE357.out]⟩⟩
                ·
                 rw [if_neg c30] at H
                 exact absurd H (by simp)
               ·
                rw [if_neg c29] at H
                exact absurd H (by simp)
              ·
               rw [if_neg c28] at H
               exact absurd H (by simp)
             ·
              rw [if_neg c27] at H
              have c27b0 : decide (x9_2 < (((rd_T55 l0_1 a2).f4).length : Int)) = false := decide_eq_false c27
              (try (have c27b0x := c27b0; simp only [hl8_2] at c27b0x))
              clear c27
              simp only [Option.some.injEq, Prod.mk.injEq] at H
              obtain ⟨rfl, rfl⟩ := H
              have hnb54 := NB341_342.out
              have hnc54 := NB342_341.out
              obtain ⟨hcz55_0, hcz55_1, hcz55_2⟩ := blkc44_3 BK341.out
              obtain ⟨hfz55_0, hfz55_1, hfz55_2⟩ := blkf44_3 BK341.out
              have p354 : 0 ≤ (a2 : Int) := of_decide_eq_true (by first | (with_reducible assumption) | assumption)
              have q354 : a2 < (l0_1.length : Int) := of_decide_eq_true (by first | (with_reducible assumption) | assumption)
              obtain ⟨ad354, A354_3, c354_3, A354_4, c354_4, e354, hx354_0, hx354_1, hx354_2, hx354_3, hx354_4, hl354_3, hi354_3, hl354_4, hi354_4⟩ := at_T55 HR0_1.out a2 p354 q354
              obtain rfl : ad346 = ad354 := (by injection e354)
              replace hx354_0 := (HB.out.cell (World.block_lt_of_cell? w _ hx354_0)).trans hx354_0
              replace hx354_1 := (HB.out.cell (World.block_lt_of_cell? w _ hx354_1)).trans hx354_1
              replace hx354_2 := (HB.out.cell (World.block_lt_of_cell? w _ hx354_2)).trans hx354_2
              replace hx354_3 := (HB.out.cell (World.block_lt_of_cell? w _ hx354_3)).trans hx354_3
              replace hx354_4 := (HB.out.cell (World.block_lt_of_cell? w _ hx354_4)).trans hx354_4
              have HR354_3 := Aside0.mk hi354_3
              have HC354_3 := Aside0.mk hl354_3
              clear hi354_3 hl354_3
              have HR354_4 := Aside0.mk hi354_4
              have HC354_4 := Aside0.mk hl354_4
              clear hi354_4 hl354_4
              replace p354 := eq_true p354
              replace q354 := eq_true q354
              go_wp2
              go_ret2
              exact ⟨_, by first | rfl | (simp [errW_none, errW_some] <;> rfl) | (simp [*, errW_none, errW_some] <;> rfl), by (with_reducible repeat (first | apply Kd.R_alloc | apply Kd.R_drewN | apply Kd.R_drew)); exact HO_8.out, by apply_rules (transparency := .reducible) only [HB.out, below_alloc, pw_below_drewN, below_drew1, below_set, GE341.out, GE342.out]⟩
            ·
             rw [if_neg c26] at H
             exact absurd H (by simp)
           ·
            rw [if_neg c25] at H
            exact absurd H (by simp)
       ·
        rw [if_neg c15] at H
        exact absurd H (by simp)
      ·
       rw [if_neg c14] at H
       exact absurd H (by simp)
   ·
    rw [if_neg c6] at H
    exact absurd H (by simp)
  ·
   rw [if_neg c5] at H
   exact absurd H (by simp)
 ·
  rw [if_neg c4] at H
  exact absurd H (by simp)

end Go.Proofs.Ytdnfofhfllnhiaa.Q
