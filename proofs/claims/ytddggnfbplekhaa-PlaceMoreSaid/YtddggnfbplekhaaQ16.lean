-- Written by drv.py, a program of this session, over the kit's print, out of the translation. Not trusted: Lean checks it.
import Derived.Test.YtddggnfbplekhaaQD0
import Derived.Test.YtddggnfbplekhaaQ10
import Derived.Test.YtddggnfbplekhaaQ4
import Derived.Test.YtddggnfbplekhaaQ5
import Derived.Test.YtddggnfbplekhaaQ7
import Derived.Test.YtddggnfbplekhaaQ8
namespace Go.Proofs.Ytddggnfbplekhaa.Q
open Go.RowKit Go.Proofs.YtddggnfbplekhaaW.PrintWords Go.Proofs.YtddggnfbplekhaaW.PrintLast Go.Proofs.YtddggnfbplekhaaW.PrintMore
attribute [local go_sem] max2_int min2_int max_two min_two max_three min_three max_four min_four   -- for this text's walks alone
set_option linter.unusedVariables false
set_option linter.unusedSimpArgs false

abbrev tT : Bool := true
abbrev fF : Bool := false
def splicelaw12_PlaceMore.T4 : Bool × List (List Nat × List Nat) := (true, [([], []), ([], []), ([1], [1]), ([0, 2], [0, 2]), ([], []), ([], []), ([5], [5]), ([4, 6], [4, 6]), ([7], [7]), ([], []), ([9], [9]), ([10], [10]), ([8, 11], [8, 11]), ([12], [12]), ([3, 13, 3], [3, 13]), ([0, 1, 2, 3, 4, 5, 6, 7, 8, 9, 10, 11, 12, 13, 14], []), ([15, 14, 14, 0, 1, 2, 3, 4, 5, 6, 7, 8, 9, 10, 11, 12, 13, 14], [14, 15])])
def splicelaw12_PlaceMore.B4 : List Nat := [0, 0, 2, 7, 0, 0, 32, 112, 240, 0, 512, 1536, 4080, 8176, 16383, 32767, 65535]
theorem blkc16_3 {w : World} {g : Nat} {t : TypeId} {v0 v1 v2 : Value} (h : w.heap[g]? = some (.cells #[v0, v1, v2] t (0, 0))) : w.cell? ⟨g, 0, none⟩ = some v0 ∧ w.cell? ⟨g, 1, none⟩ = some v1 ∧ w.cell? ⟨g, 2, none⟩ = some v2 := ⟨(blk_cell h 0).trans rfl, (blk_cell h 1).trans rfl, (blk_cell h 2).trans rfl⟩
theorem blkf16_3 {w : World} {g : Nat} {t : TypeId} {cs : Array Value} (h : w.heap[g]? = some (.cells cs t (0, 0))) : w.frozen? ⟨g, 0, none⟩ = false ∧ w.frozen? ⟨g, 1, none⟩ = false ∧ w.frozen? ⟨g, 2, none⟩ = false := ⟨blk_frozen h 0, blk_frozen h 1, blk_frozen h 2⟩
theorem splicelaw12_PlaceMore.tab4 : rtab .any (opsOf Try.f7 4) = splicelaw12_PlaceMore.T4 := by kernel_rfl
theorem splicelaw12_PlaceMore.bits4 : waitsOk splicelaw12_PlaceMore.T4.2 splicelaw12_PlaceMore.B4 = true := by kernel_rfl
def splicelaw12_PlaceMore.T5 : Bool × List (List Nat × List Nat) := (true, [([], []), ([], []), ([1], [1]), ([0, 2, 2], [0, 2]), ([3], [3]), ([4], [4]), ([4], [4]), ([], []), ([7, 5, 3, 0, 1, 2, 3, 4, 5, 7], [5, 7]), ([6, 8, 0, 1, 2, 3, 4, 5, 6, 7, 8], [6])])
def splicelaw12_PlaceMore.B5 : List Nat := [0, 0, 2, 7, 15, 31, 31, 0, 191, 511]
theorem splicelaw12_PlaceMore.tab5 : rtab .any (opsOf Try.f7 5) = splicelaw12_PlaceMore.T5 := by kernel_rfl
theorem splicelaw12_PlaceMore.bits5 : waitsOk splicelaw12_PlaceMore.T5.2 splicelaw12_PlaceMore.B5 = true := by kernel_rfl
def splicelaw12_PlaceMore.T6 : Bool × List (List Nat × List Nat) := (true, [([], []), ([], []), ([1], [1]), ([0, 2, 2], [0, 2]), ([3], [3]), ([4], [4]), ([4], [4]), ([], []), ([7, 5, 3, 0, 1, 2, 3, 4, 5, 7], [5, 7]), ([6, 8, 0, 1, 2, 3, 4, 5, 6, 7, 8], [6])])
def splicelaw12_PlaceMore.B6 : List Nat := [0, 0, 2, 7, 15, 31, 31, 0, 191, 511]
theorem splicelaw12_PlaceMore.tab6 : rtab .any (opsOf Try.f7 6) = splicelaw12_PlaceMore.T6 := by kernel_rfl
theorem splicelaw12_PlaceMore.bits6 : waitsOk splicelaw12_PlaceMore.T6.2 splicelaw12_PlaceMore.B6 = true := by kernel_rfl
def splicelaw12_PlaceMore.T10 : Bool × List (List Nat × List Nat) := (true, [([], []), ([0], [0]), ([], []), ([2], [2]), ([], []), ([3, 4], [3, 4]), ([1, 5], [1, 5]), ([6, 6], [6]), ([7], [7]), ([8, 7], [7, 8]), ([7], [7]), ([10, 7], [7, 10]), ([9, 11, 7], [7, 9, 11]), ([7, 12], [7, 12]), ([13, 7], [13]), ([14], [14]), ([15, 14], [14, 15]), ([14], [14]), ([16, 17, 14], [14, 16, 17]), ([18, 14], [14, 18]), ([14], [14]), ([20, 14], [14, 20]), ([19, 21, 14], [14, 19, 21]), ([14, 22], [14, 22]), ([23, 14], [23]), ([24], [24]), ([25, 24], [24, 25]), ([24], [24]), ([27, 24], [24, 27]), ([24], [24]), ([28, 29, 24], [24, 28, 29]), ([30, 24], [24, 30]), ([31, 24], [24, 31]), ([24], [24]), ([33, 24], [24, 33]), ([32, 34, 24], [24, 32, 34]), ([26, 35, 24], [24, 26, 35]), ([24, 36], [24, 36]), ([37, 24], [37]), ([38], [38]), ([39, 38], [38, 39]), ([38], [38]), ([41, 38], [38, 41]), ([40, 42, 38, 38], [38, 40, 42]), ([38, 43], [38, 43]), ([44, 43, 0, 1, 2, 3, 4, 5, 6, 7, 8, 9, 10, 11, 12, 13, 14, 15, 16, 17, 18, 19, 20, 21, 22, 23, 24, 25, 26, 27, 28, 29, 30, 31, 32, 33, 34, 35, 36, 37, 38, 39, 40, 41, 42, 43, 44], [44])])
def splicelaw12_PlaceMore.B10 : List Nat := [0, 1, 0, 4, 0, 28, 63, 127, 255, 511, 255, 1279, 4095, 8191, 16383, 32767, 65535, 32767, 262143, 524287, 32767, 1081343, 4194303, 8388607, 16777215, 33554431, 67108863, 33554431, 167772159, 33554431, 973078527, 2046820351, 4194303999, 33554431, 8623489023, 34259075071, 68719476735, 137438953471, 274877906943, 549755813887, 1099511627775, 549755813887, 2748779069439, 8796093022207, 17592186044415, 35184372088831]
theorem splicelaw12_PlaceMore.tab10 : rtab .any (opsOf Try.f7 10) = splicelaw12_PlaceMore.T10 := by kernel_rfl
theorem splicelaw12_PlaceMore.bits10 : waitsOk splicelaw12_PlaceMore.T10.2 splicelaw12_PlaceMore.B10 = true := by kernel_rfl
set_option maxHeartbeats 8000000 in
set_option maxRecDepth 100000 in
theorem splicelaw12_PlaceMore.calls (k : Nat) (A0_0 : Option Addr) (c0_0 : Nat) (l0_0 : List (S42)) (P0_1_ : Nat → Prop) (A0_1 : Option Addr) (c0_1 : Nat) (l0_1 : List (S39)) (a0_2 : Int) (a1 : Int) (a2 : Int) (r : Bool) (w : World) (hr0_0 : Kd.C k42 w A0_0 l0_0.length l0_0) (hc0_0 : l0_0.length ≤ c0_0) (hs0_1 : Kd.V k39 39 w w.heap.size (fun k_ => P0_1_ k_) (.slice A0_1 l0_1.length c0_1) l0_1) (h : splicelaw12_PlaceMore.f k l0_0 l0_1 a0_2 a1 a2 = some r) :
    Calls Try.prog 7 #[.agg #[.slice A0_0 l0_0.length c0_0, .slice A0_1 l0_1.length c0_1, .int .i64 a0_2], .int .u8 a1, .int .u8 a2] w fun e w' => e = .returned (.bool r) ∧ Below w.heap.size w w' := by
 have hu25 := Try.underlying25
 have hu39 := Try.underlying39
 have hu30 := Try.underlying30
 have HR0_0 := Aside0.mk hr0_0
 have HC0_0 := Aside0.mk hc0_0
 clear hr0_0 hc0_0
 have HO0_1 := Aside0.mk (show Kd.V k39 39 w w.heap.size (fun k_ => (P0_1_ k_ ∨ w.heap.size ≤ k_)) (.slice A0_1 l0_1.length c0_1) l0_1 from Kd.V_mono hs0_1 (fun k_ hk => .inl hk))
 have HB := Aside0.mk (Below.refl w.heap.size w)
 have H : ((splicelaw12_awake.f k).bind fun t362 => (if t362 = true then ((spliceref12_May.f k l0_0 l0_1 a0_2).bind fun t363 => (if t363 = true then (splicelaw12_PlaceMore.j0 k a1 a2 ((l0_0.length : Int) == 0) l0_0 l0_1 a0_2) else (splicelaw12_PlaceMore.j0 k a1 a2 true l0_0 l0_1 a0_2))) else (splicelaw12_PlaceMore.j0 k a1 a2 true l0_0 l0_1 a0_2))) = some r := h
 clear h
 have HC4 := Aside0.mk H
 clear H
 go_enter Try.func7, Try.ntmps7
 go_upto_region 1 with (first | ((with_reducible refine gate_dst (N := 3) rfl ?_); (try (refine gate_guard (by rfl) ?_; dsimp only)); refine box_event ?hg (N := 3) ?hd (cs := #[.slice A0_0 l0_0.length c0_0, .slice A0_1 l0_1.length c0_1, .int .i64 a0_2]) (t := 25) ?hr ?_; (case hd => rfl); (case hg => rfl); (case hr => first | (go_simp; done) | (go_simp; rfl)); intro gb361 hg w5 hbox hb; have n0_ := Aside0.mk (Kd.V_below (Kd.V_elderB HO0_1.out gb361 (Nat.le_of_eq hg.symm)) hb); have n1_ := Aside0.mk (below_step (by apply_rules (transparency := .reducible) only [HB.out, below_alloc, pw_below_drewN, below_drew1]) hb); have n2_ := Aside0.mk (hbox); have n3_ := Aside0.mk ((by rw [hg]; exact (below_size (by apply_rules (transparency := .reducible) only [HB.out, below_alloc, pw_below_drewN, below_drew1])) : w.heap.size ≤ gb361)); have n4_ := Aside0.mk ((by rw [hg]; exact (below_size (by apply_rules (transparency := .reducible) only [HB.out, below_alloc, pw_below_drewN, below_drew1])) : w.heap.size ≤ gb361)); clear HO0_1; clear HB; have HO0_1 := n0_; have HB := n1_; have BK361 := n2_; have GW361 := n3_; have GE361 := n4_; clear n0_ n1_ n2_ n3_ n4_; clear hb hbox hg))
 (try simp only [Act.put, List.setIfInBounds_toArray, List.set_cons_zero, List.set_cons_succ])
 go_cut [25] (fun v25 wc => ∃ (kq : Nat) (x25_3 : Bool), v25 = .bool x25_3 ∧ Aside0 (splicelaw12_PlaceMore.j0 kq a1 a2 x25_3 l0_0 l0_1 a0_2 = some r) ∧ Aside0 (kq ≤ k) ∧ Aside0 (Kd.V k39 39 wc w.heap.size (fun k_ => (P0_1_ k_ ∨ w.heap.size ≤ k_) ∧ k_ ≠ gb361) (.slice A0_1 l0_1.length c0_1) l0_1) ∧ Aside0 (wc.heap[gb361]? = some (.cells #[(.slice A0_0 l0_0.length c0_0), (.slice A0_1 l0_1.length c0_1), .int .i64 a0_2] 25 (0, 0))) ∧ Aside0 (Below w.heap.size w wc))
 case first =>
  have H := HC4.out
  clear HC4
  replace H := Option.bind_eq_some_iff.mp H
  obtain ⟨t362, A60, H⟩ := H
  try dsimp only at H
  have A6 := Aside0.mk A60
  clear A60
  by_cases c7 : t362 = true
  ·
   subst c7
   rw [if_pos rfl] at H
   replace H := Option.bind_eq_some_iff.mp H
   obtain ⟨t363, A80, H⟩ := H
   try dsimp only at H
   have A8 := Aside0.mk A80
   clear A80
   by_cases c9 : t363 = true
   ·
    subst c9
    rw [if_pos rfl] at H
    have H' := Aside0.mk H
    clear H
    go_wp2_with (first | ((with_reducible refine gate_callee (f := 8) rfl ?_); refine goesL_ (some 13) rfl rfl Try.func8 (by kernel_rfl) rfl #[] rfl (by (try simp only [List.map_toArray, List.map_cons, List.map_nil]); first | done | rfl | (simp only [List.length_drop, List.length_take]; rfl)) ?_; (with_reducible refine (splicelaw12_awake.calls k  true _ A6.out).mono ?_); rintro e w10 ⟨rfl, hb⟩; refine ⟨_, rfl, ?_⟩; have n0_ := Aside0.mk (Kd.V_below HO0_1.out hb); have n1_ := Aside0.mk (blk_below (g := gb361) (o := _) BK361.out hb); have n2_ := Aside0.mk (below_step (by apply_rules (transparency := .reducible) only [HB.out, below_alloc, pw_below_drewN, below_drew1, below_set, GE361.out]) hb); clear HO0_1; clear BK361; clear HB; have HO0_1 := n0_; have BK361 := n1_; have HB := n2_; clear n0_ n1_ n2_; (try clear hb); (try clear hb2); (try clear hk); (try clear hi); obtain ⟨hcz11_0, hcz11_1, hcz11_2⟩ := blkc16_3 BK361.out; obtain ⟨hfz11_0, hfz11_1, hfz11_2⟩ := blkf16_3 BK361.out) | (go_at_call 9; (with_reducible refine (spliceref12_May.calls k _ _ l0_0 _ _ l0_1 a0_2 true _ ?side1 ?side2 ?side3 ?side4 A8.out).mono ?_); (case side1 => repeat (first | exact (Kd.C_below HR0_0.out HB.out) | (with_reducible refine Kd.C_alloc ?_ _) | (with_reducible refine Kd.C_drewN ?_ _) | (with_reducible refine Kd.C_drew ?_))); (case side2 => exact HC0_0.out); (case side3 => repeat (first | exact (Kd.V_reads' HO0_1.out).2.2 | (with_reducible refine Kd.C_alloc ?_ _) | (with_reducible refine Kd.C_drewN ?_ _) | (with_reducible refine Kd.C_drew ?_))); (case side4 => exact (Kd.V_reads' HO0_1.out).2.1); rintro e w12 ⟨rfl, hb⟩; have n0_ := Aside0.mk (Kd.V_below HO0_1.out hb); have n1_ := Aside0.mk (blk_below (g := gb361) (o := _) BK361.out hb); have n2_ := Aside0.mk (below_step (by apply_rules (transparency := .reducible) only [HB.out, below_alloc, pw_below_drewN, below_drew1, below_set, GE361.out]) hb); clear HO0_1; clear BK361; clear HB; have HO0_1 := n0_; have BK361 := n1_; have HB := n2_; clear n0_ n1_ n2_; (try clear hb); (try clear hb2); (try clear hk); (try clear hi); obtain ⟨hcz13_0, hcz13_1, hcz13_2⟩ := blkc16_3 BK361.out; obtain ⟨hfz13_0, hfz13_1, hfz13_2⟩ := blkf16_3 BK361.out))
    go_meet
    case rel => exact ⟨_, (((l0_0.length : Int) == 0)), (by first | rfl | (simp; done) | (simp [*]; done)), H', ⟨by first | omega | exact Nat.le_refl _⟩, ⟨by (with_reducible repeat (first | apply Kd.V_alloc | apply Kd.V_drewN | apply Kd.V_drew)); exact HO0_1.out⟩, ⟨by (try apply_rules (transparency := .reducible) only [blk_drewN, blk_drew, blk_alloc]); exact BK361.out⟩, ⟨by apply_rules (transparency := .reducible) only [HB.out, below_alloc, pw_below_drewN, below_drew1, below_set, GE361.out]⟩⟩
   ·
    replace c9 := Bool.eq_false_iff.mpr c9
    subst c9
    rw [if_neg Bool.false_ne_true] at H
    have H' := Aside0.mk H
    clear H
    go_wp2_with (first | ((with_reducible refine gate_callee (f := 8) rfl ?_); refine goesL_ (some 13) rfl rfl Try.func8 (by kernel_rfl) rfl #[] rfl (by (try simp only [List.map_toArray, List.map_cons, List.map_nil]); first | done | rfl | (simp only [List.length_drop, List.length_take]; rfl)) ?_; (with_reducible refine (splicelaw12_awake.calls k  true _ A6.out).mono ?_); rintro e w14 ⟨rfl, hb⟩; refine ⟨_, rfl, ?_⟩; have n0_ := Aside0.mk (Kd.V_below HO0_1.out hb); have n1_ := Aside0.mk (blk_below (g := gb361) (o := _) BK361.out hb); have n2_ := Aside0.mk (below_step (by apply_rules (transparency := .reducible) only [HB.out, below_alloc, pw_below_drewN, below_drew1, below_set, GE361.out]) hb); clear HO0_1; clear BK361; clear HB; have HO0_1 := n0_; have BK361 := n1_; have HB := n2_; clear n0_ n1_ n2_; (try clear hb); (try clear hb2); (try clear hk); (try clear hi); obtain ⟨hcz15_0, hcz15_1, hcz15_2⟩ := blkc16_3 BK361.out; obtain ⟨hfz15_0, hfz15_1, hfz15_2⟩ := blkf16_3 BK361.out) | (go_at_call 9; (with_reducible refine (spliceref12_May.calls k _ _ l0_0 _ _ l0_1 a0_2 false _ ?side1 ?side2 ?side3 ?side4 A8.out).mono ?_); (case side1 => repeat (first | exact (Kd.C_below HR0_0.out HB.out) | (with_reducible refine Kd.C_alloc ?_ _) | (with_reducible refine Kd.C_drewN ?_ _) | (with_reducible refine Kd.C_drew ?_))); (case side2 => exact HC0_0.out); (case side3 => repeat (first | exact (Kd.V_reads' HO0_1.out).2.2 | (with_reducible refine Kd.C_alloc ?_ _) | (with_reducible refine Kd.C_drewN ?_ _) | (with_reducible refine Kd.C_drew ?_))); (case side4 => exact (Kd.V_reads' HO0_1.out).2.1); rintro e w16 ⟨rfl, hb⟩; have n0_ := Aside0.mk (Kd.V_below HO0_1.out hb); have n1_ := Aside0.mk (blk_below (g := gb361) (o := _) BK361.out hb); have n2_ := Aside0.mk (below_step (by apply_rules (transparency := .reducible) only [HB.out, below_alloc, pw_below_drewN, below_drew1, below_set, GE361.out]) hb); clear HO0_1; clear BK361; clear HB; have HO0_1 := n0_; have BK361 := n1_; have HB := n2_; clear n0_ n1_ n2_; (try clear hb); (try clear hb2); (try clear hk); (try clear hi)))
    go_meet
    case rel => exact ⟨_, (true), (by first | rfl | (simp; done) | (simp [*]; done)), H', ⟨by first | omega | exact Nat.le_refl _⟩, ⟨by (with_reducible repeat (first | apply Kd.V_alloc | apply Kd.V_drewN | apply Kd.V_drew)); exact HO0_1.out⟩, ⟨by (try apply_rules (transparency := .reducible) only [blk_drewN, blk_drew, blk_alloc]); exact BK361.out⟩, ⟨by apply_rules (transparency := .reducible) only [HB.out, below_alloc, pw_below_drewN, below_drew1, below_set, GE361.out]⟩⟩
  ·
   replace c7 := Bool.eq_false_iff.mpr c7
   subst c7
   rw [if_neg Bool.false_ne_true] at H
   have H' := Aside0.mk H
   clear H
   go_wp2_with (first | ((with_reducible refine gate_callee (f := 8) rfl ?_); refine goesL_ (some 13) rfl rfl Try.func8 (by kernel_rfl) rfl #[] rfl (by (try simp only [List.map_toArray, List.map_cons, List.map_nil]); first | done | rfl | (simp only [List.length_drop, List.length_take]; rfl)) ?_; (with_reducible refine (splicelaw12_awake.calls k  false _ A6.out).mono ?_); rintro e w17 ⟨rfl, hb⟩; refine ⟨_, rfl, ?_⟩; have n0_ := Aside0.mk (Kd.V_below HO0_1.out hb); have n1_ := Aside0.mk (blk_below (g := gb361) (o := _) BK361.out hb); have n2_ := Aside0.mk (below_step (by apply_rules (transparency := .reducible) only [HB.out, below_alloc, pw_below_drewN, below_drew1, below_set, GE361.out]) hb); clear HO0_1; clear BK361; clear HB; have HO0_1 := n0_; have BK361 := n1_; have HB := n2_; clear n0_ n1_ n2_; (try clear hb); (try clear hb2); (try clear hk); (try clear hi)))
   go_meet
   case rel => exact ⟨_, (true), (by first | rfl | (simp; done) | (simp [*]; done)), H', ⟨by first | omega | exact Nat.le_refl _⟩, ⟨by (with_reducible repeat (first | apply Kd.V_alloc | apply Kd.V_drewN | apply Kd.V_drew)); exact HO0_1.out⟩, ⟨by (try apply_rules (transparency := .reducible) only [blk_drewN, blk_drew, blk_alloc]); exact BK361.out⟩, ⟨by apply_rules (transparency := .reducible) only [HB.out, below_alloc, pw_below_drewN, below_drew1, below_set, GE361.out]⟩⟩
 case rest =>
  clear HC4
  (try clear p2); (try clear c7); (try clear c8); (try clear c9); (try clear hcz11_0); (try clear hcz11_1); (try clear hcz11_2); (try clear hcz13_0); (try clear hcz13_1); (try clear hcz13_2); (try clear hcz15_0); (try clear hcz15_1); (try clear hcz15_2); (try clear hfz11_0); (try clear hfz11_1); (try clear hfz11_2); (try clear hfz13_0); (try clear hfz13_1); (try clear hfz13_2); (try clear hfz15_0); (try clear hfz15_1); (try clear hfz15_2)
  obtain ⟨kq, x25_3, rfl, HA, HJ3, HO_362001, BK361, HB⟩ := hcut
  cases kq with
  | zero => exact absurd HA.out (by simp [splicelaw12_PlaceMore.j0])
  | succ kj3 =>
   have H := HA.out
   clear HA
   simp only [splicelaw12_PlaceMore.j0] at H
   by_cases c18 : x25_3 = true
   ·
    subst c18
    rw [if_pos rfl] at H
    replace H := Option.bind_eq_some_iff.mp H
    obtain ⟨t364, A190, H⟩ := H
    replace H : (some t364) = some r := H
    have A19 := Aside0.mk A190
    clear A190
    obtain rfl := Option.some.inj H
    go_wp2_with (first | ((with_reducible refine gate_callee (f := 8) rfl ?_); refine goesL_ (some 26) rfl rfl Try.func8 (by kernel_rfl) rfl #[] rfl (by (try simp only [List.map_toArray, List.map_cons, List.map_nil]); first | done | rfl | (simp only [List.length_drop, List.length_take]; rfl)) ?_; (with_reducible refine (splicelaw12_awake.calls kj3  t364 _ A19.out).mono ?_); rintro e w20 ⟨rfl, hb⟩; refine ⟨_, rfl, ?_⟩; have n0_ := Aside0.mk (Kd.V_below HO_362001.out hb); have n1_ := Aside0.mk (blk_below (g := gb361) (o := _) BK361.out hb); have n2_ := Aside0.mk (below_step (by apply_rules (transparency := .reducible) only [HB.out, below_alloc, pw_below_drewN, below_drew1, below_set, GE361.out]) hb); clear HO_362001; clear BK361; clear HB; have HO_362001 := n0_; have BK361 := n1_; have HB := n2_; clear n0_ n1_ n2_; (try clear hb); (try clear hb2); (try clear hk); (try clear hi)))
    go_ret
    exact ⟨by first | rfl | (simp [errW_none, errW_some] <;> rfl) | (simp [*, errW_none, errW_some] <;> rfl), by apply_rules (transparency := .reducible) only [HB.out, below_alloc, pw_below_drewN, below_drew1, below_set, GE361.out]⟩
   ·
    replace c18 := Bool.eq_false_iff.mpr c18
    subst c18
    rw [if_neg Bool.false_ne_true] at H
    obtain ⟨y366, hy366⟩ : ∃ y_ : List (S39), y_ = (([] : List (S39))) := ⟨_, rfl⟩
    replace H : (if y366.length + l0_1.length < 1954687338268 then ((some (y366 ++ l0_1 : List (S39))).bind fun y369 => ((some (([1, 2, 4, 8, 16] : List Int) : List Int)).bind fun y372 => (if 0 ≤ (Int.tmod a2 5) then (if (Int.tmod a2 5) < (y372.length : Int) then ((some (([(⟨rd y372 (Int.tmod a2 5), false, wrap64 (1 + (wrap64 (a1))), ([] : List Int), ([] : List (S71))⟩ : S39)] : List (S39)) : List (S39))).bind fun y376 => (if y369.length + y376.length < 1954687338268 then ((some (y369 ++ y376 : List (S39))).bind fun y379 => ((place_All.f kj3 l0_0 l0_1 a0_2).bind fun t382 => ((place_Plan.f kj3 l0_0 l0_1 a0_2 t382).bind fun bt385 => ((place_All.f kj3 l0_0 y379 a0_2).bind fun t396 => ((place_Plan.f kj3 l0_0 y379 a0_2 t396).bind fun bt399 => (if bt385.2.2.2.2.2 = 0 then (splicelaw12_PlaceMore.j1 kj3 a1 bt385.2.2.2.2.2 bt399.2.2.2.2.2 (bt399.2.2.2.2.2 != 0) l0_0 l0_1 a0_2 bt385.1 bt385.2.1 bt385.2.2.1 bt385.2.2.2.1 bt385.2.2.2.2.1 bt399.1 bt399.2.1 bt399.2.2.1 bt399.2.2.2.1 bt399.2.2.2.2.1) else (splicelaw12_PlaceMore.j1 kj3 a1 bt385.2.2.2.2.2 bt399.2.2.2.2.2 true l0_0 l0_1 a0_2 bt385.1 bt385.2.1 bt385.2.2.1 bt385.2.2.2.1 bt385.2.2.2.2.1 bt399.1 bt399.2.1 bt399.2.2.1 bt399.2.2.2.1 bt399.2.2.2.2.1))))))) else (none))) else (none)) else (none)))) else (none)) = some r := by first | (rw [hy366]; with_reducible exact H) | (have H2_ := (Option.bind_some _ _).symm.trans H; rw [hy366]; with_reducible exact H2_) | (have H2_ := (Option.bind_some _ _).symm.trans H; with_reducible exact H2_) | with_reducible exact H | (rw [hy366]; exact H) | exact H
    have Ny366 := Aside0.mk hy366
    clear hy366
    by_cases c21 : y366.length + l0_1.length < 1954687338268
    case neg =>
     rw [if_neg c21] at H
     exact absurd H (by simp)

    rw [if_pos c21] at H
    have LMc21 := Aside0.mk c21
    clear c21
    obtain ⟨y369, hy369⟩ : ∃ y_ : List (S39), y_ = (y366 ++ l0_1) := ⟨_, rfl⟩
    (first | rw [Option.bind_some, ← hy369] at H | rw [← hy369] at H | skip)
    have Ny369 := Aside0.mk hy369
    clear hy369
    obtain ⟨y372, hy372⟩ : ∃ y_ : List Int, y_ = (([1, 2, 4, 8, 16] : List Int)) := ⟨_, rfl⟩
    (first | rw [Option.bind_some, ← hy372] at H | rw [← hy372] at H | skip)
    have Ny372 := Aside0.mk hy372
    clear hy372
    obtain ⟨ji22, hji22⟩ : ∃ j_ : Int, (Int.tmod a2 5) = j_ := ⟨_, rfl⟩
    replace H : (if 0 ≤ (ji22) then (if (ji22) < (y372.length : Int) then ((some (([(⟨rd y372 (ji22), false, wrap64 (1 + (wrap64 (a1))), ([] : List Int), ([] : List (S71))⟩ : S39)] : List (S39)) : List (S39))).bind fun y376 => (if y369.length + y376.length < 1954687338268 then ((some (y369 ++ y376 : List (S39))).bind fun y379 => ((place_All.f kj3 l0_0 l0_1 a0_2).bind fun t382 => ((place_Plan.f kj3 l0_0 l0_1 a0_2 t382).bind fun bt385 => ((place_All.f kj3 l0_0 y379 a0_2).bind fun t396 => ((place_Plan.f kj3 l0_0 y379 a0_2 t396).bind fun bt399 => (if bt385.2.2.2.2.2 = 0 then (splicelaw12_PlaceMore.j1 kj3 a1 bt385.2.2.2.2.2 bt399.2.2.2.2.2 (bt399.2.2.2.2.2 != 0) l0_0 l0_1 a0_2 bt385.1 bt385.2.1 bt385.2.2.1 bt385.2.2.2.1 bt385.2.2.2.2.1 bt399.1 bt399.2.1 bt399.2.2.1 bt399.2.2.2.1 bt399.2.2.2.2.1) else (splicelaw12_PlaceMore.j1 kj3 a1 bt385.2.2.2.2.2 bt399.2.2.2.2.2 true l0_0 l0_1 a0_2 bt385.1 bt385.2.1 bt385.2.2.1 bt385.2.2.2.1 bt385.2.2.2.2.1 bt399.1 bt399.2.1 bt399.2.2.1 bt399.2.2.2.1 bt399.2.2.2.2.1))))))) else (none))) else (none)) else (none)) = some r := by first | (rw [hji22] at H; exact H) | (simp only [hji22] at H ⊢; exact H)
    by_cases c23 : 0 ≤ (ji22)
    case neg =>
     rw [if_neg c23] at H
     exact absurd H (by simp)
    rw [if_pos c23] at H
    have c23b0 : decide (0 ≤ (ji22)) = true := decide_eq_true c23
    clear c23
    by_cases c24 : (ji22) < (y372.length : Int)
    case neg =>
     rw [if_neg c24] at H
     exact absurd H (by simp)
    rw [if_pos c24] at H
    have c24b0 : decide ((ji22) < (y372.length : Int)) = true := decide_eq_true c24
    clear c24
    obtain ⟨y376, hy376⟩ : ∃ y_ : List (S39), y_ = (([(⟨rd y372 (ji22), false, wrap64 (1 + (wrap64 (a1))), ([] : List Int), ([] : List (S71))⟩ : S39)] : List (S39))) := ⟨_, rfl⟩
    (first | rw [Option.bind_some, ← hy376] at H | rw [← hy376] at H | skip)
    have Ny376 := Aside0.mk hy376
    clear hy376
    by_cases c25 : y369.length + y376.length < 1954687338268
    case neg =>
     rw [if_neg c25] at H
     exact absurd H (by simp)
    rw [if_pos c25] at H
    have LMc25 := Aside0.mk c25
    clear c25
    obtain ⟨y379, hy379⟩ : ∃ y_ : List (S39), y_ = (y369 ++ y376) := ⟨_, rfl⟩
    (first | rw [Option.bind_some, ← hy379] at H | rw [← hy379] at H | skip)
    have Ny379 := Aside0.mk hy379
    clear hy379
    replace H := Option.bind_eq_some_iff.mp H
    obtain ⟨t382, A260, H⟩ := H
    try dsimp only at H
    have A26 := Aside0.mk A260
    clear A260
    replace H := Option.bind_eq_some_iff.mp H
    obtain ⟨⟨t385, t388, t391, t392, t393, t394⟩, A270, H⟩ := H
    try dsimp only at H
    have A27 := Aside0.mk A270
    clear A270
    replace H := Option.bind_eq_some_iff.mp H
    obtain ⟨t396, A280, H⟩ := H
    try dsimp only at H
    have A28 := Aside0.mk A280
    clear A280
    replace H := Option.bind_eq_some_iff.mp H
    obtain ⟨⟨t399, t402, t405, t406, t407, t408⟩, A290, H⟩ := H
    try dsimp only at H
    have A29 := Aside0.mk A290
    clear A290
    have HC30 := Aside0.mk H
    clear H
    obtain ⟨hcz31_0, hcz31_1, hcz31_2⟩ := blkc16_3 BK361.out
    obtain ⟨hfz31_0, hfz31_1, hfz31_2⟩ := blkf16_3 BK361.out
    try go_wp2_with (first | ((with_reducible refine gate_dst (N := 7) rfl ?_); (try (refine gate_guard (by rfl) ?_; dsimp only)); refine box_event ?hg (N := 7) ?hd (cs := #[.slice none 0 0, .slice none 0 0, .int .i64 0]) (t := 25) ?hr ?_; (case hd => rfl); (case hg => rfl); (case hr => first | (go_simp; done) | (go_simp; rfl)); intro gb365 hg w32 hbox hb; have n0_ := Aside0.mk (Kd.V_below (Kd.V_elderB HO_362001.out gb365 (Nat.le_of_eq hg.symm)) hb); have n1_ := Aside0.mk (blk_below (g := gb361) (o := _) BK361.out hb); have n2_ := Aside0.mk (below_step (by apply_rules (transparency := .reducible) only [HB.out, below_alloc, pw_below_drewN, below_drew1, below_set, GE361.out]) hb); have n3_ := Aside0.mk (hbox); have n4_ := Aside0.mk ((by rw [hg]; exact (below_size (by apply_rules (transparency := .reducible) only [HB.out, below_alloc, pw_below_drewN, below_drew1, below_set, GE361.out])) : w.heap.size ≤ gb365)); have n5_ := Aside0.mk ((by rw [hg]; exact (below_size (by apply_rules (transparency := .reducible) only [HB.out, below_alloc, pw_below_drewN, below_drew1, below_set, GE361.out])) : w.heap.size ≤ gb365)); have n6_ := Aside0.mk ((by rw [hg]; exact Nat.ne_of_lt (blk_lt (g := gb361) (o := _) BK361.out) : gb361 ≠ gb365)); have n7_ := Aside0.mk ((by rw [hg]; exact Nat.ne_of_gt (blk_lt (g := gb361) (o := _) BK361.out) : gb365 ≠ gb361)); clear HO_362001; clear BK361; clear HB; have HO_362001 := n0_; have BK361 := n1_; have HB := n2_; have BK365 := n3_; have GW365 := n4_; have GE365 := n5_; have NB361_365 := n6_; have NB365_361 := n7_; clear n0_ n1_ n2_ n3_ n4_ n5_ n6_ n7_; clear hb hbox hg; have hnb33 := NB365_361.out; have hnc33 := NB361_365.out; obtain ⟨hcz34_0, hcz34_1, hcz34_2⟩ := blkc16_3 BK365.out; obtain ⟨hfz34_0, hfz34_1, hfz34_2⟩ := blkf16_3 BK365.out))
    have pi375 : (0 ≤ ((ji22) : Int)) = True := eq_true (of_decide_eq_true (by first | (with_reducible assumption) | assumption))
    have qi375 : ((ji22) < (y372.length : Int)) = True := eq_true (of_decide_eq_true (by first | (with_reducible assumption) | assumption))
    obtain ⟨w35, hw35_⟩ : ∃ w_ : World, w_ = (((w32.setCell ⟨gb365, 0, none⟩ (.slice A0_0 l0_0.length c0_0)).setCell ⟨gb365, 1, none⟩ (.slice A0_1 l0_1.length c0_1)).setCell ⟨gb365, 2, none⟩ (.int .i64 a0_2)) := ⟨_, rfl⟩
    have n0_ : Aside0 (Kd.V k39 39 w35 w.heap.size (fun k_ => (P0_1_ k_ ∨ w.heap.size ≤ k_) ∧ k_ ≠ gb361 ∧ k_ ≠ gb365) (.slice A0_1 l0_1.length c0_1) l0_1) := ⟨by rw [hw35_]; (with_reducible repeat (first | apply Kd.V_alloc | apply Kd.V_drewN | apply Kd.V_drew)); exact Kd.V_mono (Kd.V_far (p := ⟨gb365, 2, none⟩) (Kd.V_far (p := ⟨gb365, 1, none⟩) (Kd.V_far (p := ⟨gb365, 0, none⟩) (Kd.V_mono HO_362001.out (fun k_ hk => (⟨hk, hk.2⟩ : _ ∧ k_ ≠ gb365))) (fun _ hk => hk.2) (.slice A0_0 l0_0.length c0_0)) (fun _ hk => hk.2) (.slice A0_1 l0_1.length c0_1)) (fun _ hk => hk.2) (.int .i64 a0_2)) (fun _ hk => ⟨hk.1.1.1, hk.1.1.2, hk.1.2⟩)⟩
    have n1_ : Aside0 (w35.heap[gb361]? = some (.cells #[.slice A0_0 l0_0.length c0_0, .slice A0_1 l0_1.length c0_1, .int .i64 a0_2] 25 (0, 0))) := ⟨by rw [hw35_]; apply_rules (transparency := .reducible) only [blk_drewN, blk_drew, blk_alloc, blk_far, NB361_365.out, BK361.out]⟩
    have n2_ : Aside0 (w35.heap[gb365]? = some (.cells #[.slice A0_0 l0_0.length c0_0, .slice A0_1 l0_1.length c0_1, .int .i64 a0_2] 25 (0, 0))) := ⟨by rw [hw35_]; (try apply_rules (transparency := .reducible) only [blk_drewN, blk_drew, blk_alloc]); refine blk_put (cs := #[.slice A0_0 l0_0.length c0_0, .slice A0_1 l0_1.length c0_1, .int .i64 0]) ?_ 2 _ rfl; (try apply_rules (transparency := .reducible) only [blk_drewN, blk_drew, blk_alloc]); refine blk_put (cs := #[.slice A0_0 l0_0.length c0_0, .slice none 0 0, .int .i64 0]) ?_ 1 _ rfl; (try apply_rules (transparency := .reducible) only [blk_drewN, blk_drew, blk_alloc]); refine blk_put (cs := #[.slice none 0 0, .slice none 0 0, .int .i64 0]) ?_ 0 _ rfl; (try apply_rules (transparency := .reducible) only [blk_drewN, blk_drew, blk_alloc]); exact BK365.out⟩
    have n3_ : Aside0 (Below w.heap.size w w35) := ⟨by rw [hw35_]; repeat (first | (with_reducible first | exact HB.out | apply below_alloc | apply pw_below_drewN | apply below_drew1 | refine below_set ?_ GE361.out | refine below_set ?_ GE365.out) | exact HB.out)⟩
    (try clear HO_362001)
    (try clear BK361)
    (try clear BK365)
    (try clear HB)
    (try rw [← hw35_])
    clear hw35_; have HO_362001 := n0_; have BK361 := n1_; have BK365 := n2_; have HB := n3_; clear n0_ n1_ n2_ n3_
    have n0_ := Aside0.mk (Kd.V_drew HO_362001.out)
    have n1_ := Aside0.mk (blk_drew BK361.out)
    have n2_ := Aside0.mk (blk_drew BK365.out)
    have n3_ := Aside0.mk (below_drew1 HB.out)
    clear HO_362001 BK361 BK365 HB; have HO_362001 := n0_; have BK361 := n1_; have BK365 := n2_; have HB := n3_; clear n0_ n1_ n2_ n3_
    refine start_ (n := 17) (S := fun w' => w'.cell? ⟨gb361, 0, none⟩ = some (.slice A0_0 l0_0.length c0_0) ∧ w'.cell? ⟨gb361, 1, none⟩ = some (.slice A0_1 l0_1.length c0_1) ∧ w'.cell? ⟨gb361, 2, none⟩ = some (.int .i64 a0_2)) (ds := []) #[fF,fF,fF,fF,fF,fF,fF,fF,fF,fF,fF,fF,fF,fF,fF,fF,fF] (by kernel_rfl) rfl rfl ⟨(blk_cell BK361.out 0).trans rfl, (blk_cell BK361.out 1).trans rfl, (blk_cell BK361.out 2).trans rfl⟩ (fun hHeld => ?_); refine with_tabW splicelaw12_PlaceMore.tab4 splicelaw12_PlaceMore.bits4 (fun HT_ HW_ => ?_)
    generalize w35.drew = w36 at HO_362001 BK361 BK365 HB hHeld ⊢
    refine pure_ (i := 1) (N := some 29) (v := ?_) (a' := ?_) #[fF,tT,fF,fF,fF,fF,fF,fF,fF,fF,fF,fF,fF,fF,fF,fF,fF] rfl rfl (any_of HT_.out (by kernel_rfl)) (fun _ _ _ h => h) (Or.inl ⟨by rfl, ?_⟩) ?_ ?_
    rotate_left; (intro w'; go_simp; with_reducible rfl); rotate_left; (simp only [Act.put, List.setIfInBounds_toArray, List.set_cons_zero, List.set_cons_succ, i64_w, i32_w]; rfl)
    refine pure_ (i := 5) (N := some 33) (v := ?_) (a' := ?_) #[fF,tT,fF,fF,fF,tT,fF,fF,fF,fF,fF,fF,fF,fF,fF,fF,fF] rfl rfl (any_of HT_.out (by kernel_rfl)) (fun _ _ _ h => h) (Or.inl ⟨by rfl, ?_⟩) ?_ ?_
    rotate_left; (intro w'; go_simp; with_reducible rfl); rotate_left; (simp only [Act.put, List.setIfInBounds_toArray, List.set_cons_zero, List.set_cons_succ, i64_w, i32_w]; rfl)
    refine pure_ (i := 6) (N := some 34) (v := ?_) (a' := ?_) #[fF,tT,fF,fF,fF,tT,tT,fF,fF,fF,fF,fF,fF,fF,fF,fF,fF] rfl rfl (any_of HT_.out (by kernel_rfl)) (fun _ _ _ h => h) (Or.inl ⟨by rfl, ?_⟩) ?_ ?_
    rotate_left; (intro w'; go_simp; with_reducible rfl); rotate_left; (simp only [Act.put, List.setIfInBounds_toArray, List.set_cons_zero, List.set_cons_succ, i64_w, i32_w]; rfl)
    refine pure_ (i := 9) (N := some 37) (v := ?_) (a' := ?_) #[fF,tT,fF,fF,fF,tT,tT,fF,fF,tT,fF,fF,fF,fF,fF,fF,fF] rfl rfl (any_of HT_.out (by kernel_rfl)) (fun _ _ _ h => h) (Or.inl ⟨by rfl, ?_⟩) ?_ ?_
    rotate_left; (intro w'; go_simp; with_reducible rfl); rotate_left; (simp only [Act.put, List.setIfInBounds_toArray, List.set_cons_zero, List.set_cons_succ, i64_w, i32_w]; rfl)
    refine pure_ (i := 10) (N := some 38) (v := ?_) (a' := ?_) #[fF,tT,fF,fF,fF,tT,tT,fF,fF,tT,tT,fF,fF,fF,fF,fF,fF] rfl rfl (any_of HT_.out (by kernel_rfl)) (fun _ _ _ h => h) (Or.inl ⟨by rfl, ?_⟩) ?_ ?_
    rotate_left; (intro w'; go_simp; with_reducible rfl); rotate_left; (simp only [Act.put, List.setIfInBounds_toArray, List.set_cons_zero, List.set_cons_succ, i64_w, i32_w]; rfl)
    refine pure_ (i := 11) (N := some 39) (v := ?_) (a' := ?_) #[fF,tT,fF,fF,fF,tT,tT,fF,fF,tT,tT,tT,fF,fF,fF,fF,fF] rfl rfl (any_of HT_.out (by kernel_rfl)) (fun _ _ _ h => h) (Or.inl ⟨by rfl, ?_⟩) ?_ ?_
    rotate_left; (intro w'; go_simp; with_reducible rfl); rotate_left; (simp only [Act.put, List.setIfInBounds_toArray, List.set_cons_zero, List.set_cons_succ, i64_w, i32_w]; rfl)
    refine take_ (i := 2) (N := some 30) (v := ?_) (a' := ?_) #[fF,tT,tT,fF,fF,tT,tT,fF,fF,tT,tT,tT,fF,fF,fF,fF,fF] rfl rfl (take_ofW HT_.out HW_.out (by kernel_rfl)) (fun _ _ _ h => h) (Or.inl ⟨by rfl, ?_⟩) hHeld ?_ ?_
    rotate_left; (rintro w' ⟨s0, s1, s2⟩; go_simp; with_reducible rfl); rotate_left; (simp only [Act.put, List.setIfInBounds_toArray, List.set_cons_zero, List.set_cons_succ, i64_w, i32_w]; rfl)
    refine join_ (σ := Value × Value × Value × Addr × Value) 3 #[tT,tT,tT,tT,tT,tT,tT,tT,tT,tT,tT,tT,tT,tT,fF,fF,fF] (fun s_ => [(28, s_.1), (31, s_.2.1), (32, s_.2.2.1), (36, .int .i64 (rd y372 (ji22))), (41, s_.2.2.2.2), (35, .pointer (some (s_.2.2.2.1.add ((ji22)).toNat))), (40, .agg #[.int .i64 (rd y372 (ji22)), .bool false, .int .i64 (wrap64 (1 + (wrap64 (a1)))), .slice none 0 0, .slice none 0 0])]) (fun s_ w' => (w'.cell? ⟨gb361, 0, none⟩ = some (.slice A0_0 l0_0.length c0_0) ∧ w'.cell? ⟨gb361, 1, none⟩ = some (.slice A0_1 l0_1.length c0_1) ∧ w'.cell? ⟨gb361, 2, none⟩ = some (.int .i64 a0_2)) ∧ (Kd.N k39 39 w' w.heap.size (fun k_ => (P0_1_ k_ ∨ w.heap.size ≤ k_) ∧ some k_ ≠ (s_.2.2.1 : Value).ownBlock ∧ some k_ ≠ (s_.2.2.2.2 : Value).ownBlock ∧ k_ ≠ gb361 ∧ k_ ≠ gb365) s_.2.1 y369) ∧ (Kd.R (Kd.int .i64) 3 w' w.heap.size (fun k_ => (w.heap.size ≤ k_)) s_.2.2.1 y372) ∧ (Kd.N k39 39 w' w.heap.size (fun k_ => (P0_1_ k_ ∨ w.heap.size ≤ k_) ∧ some k_ ≠ (s_.2.1 : Value).ownBlock ∧ some k_ ≠ (s_.2.2.1 : Value).ownBlock ∧ k_ ≠ gb361 ∧ k_ ≠ gb365) s_.2.2.2.2 y376) ∧ (Kd.V k39 39 w' w.heap.size (fun k_ => (P0_1_ k_ ∨ w.heap.size ≤ k_) ∧ some k_ ≠ (s_.2.1 : Value).ownBlock ∧ some k_ ≠ (s_.2.2.1 : Value).ownBlock ∧ some k_ ≠ (s_.2.2.2.2 : Value).ownBlock ∧ k_ ≠ gb361 ∧ k_ ≠ gb365) (.slice A0_1 l0_1.length c0_1) l0_1) ∧ (∃ c_, (s_.2.2.1 : Value) = .slice (some s_.2.2.2.1) y372.length c_) ∧ (w'.heap[gb361]? = some (.cells #[.slice A0_0 l0_0.length c0_0, .slice A0_1 l0_1.length c0_1, .int .i64 a0_2] 25 (0, 0))) ∧ (w'.heap[gb365]? = some (.cells #[.slice A0_0 l0_0.length c0_0, .slice A0_1 l0_1.length c0_1, .int .i64 a0_2] 25 (0, 0))) ∧ (Below w.heap.size w w')) ?_ ?_
    rotate_left
    ·
     intro hJ0_3_4_8_13
     refine join_ (σ := Value × Value × Value × Addr) 4 #[tT,tT,tT,tT,tT,tT,tT,tT,tT,tT,tT,tT,tT,fF,fF,fF,fF] (fun s_ => [(28, s_.1), (31, s_.2.1), (32, s_.2.2.1), (36, .int .i64 (rd y372 (ji22))), (35, .pointer (some (s_.2.2.2.add ((ji22)).toNat))), (40, .agg #[.int .i64 (rd y372 (ji22)), .bool false, .int .i64 (wrap64 (1 + (wrap64 (a1)))), .slice none 0 0, .slice none 0 0])]) (fun s_ w' => (w'.cell? ⟨gb361, 0, none⟩ = some (.slice A0_0 l0_0.length c0_0) ∧ w'.cell? ⟨gb361, 1, none⟩ = some (.slice A0_1 l0_1.length c0_1) ∧ w'.cell? ⟨gb361, 2, none⟩ = some (.int .i64 a0_2)) ∧ (Kd.N k39 39 w' w.heap.size (fun k_ => (P0_1_ k_ ∨ w.heap.size ≤ k_) ∧ some k_ ≠ (s_.2.2.1 : Value).ownBlock ∧ k_ ≠ gb361 ∧ k_ ≠ gb365) s_.2.1 y369) ∧ (Kd.R (Kd.int .i64) 3 w' w.heap.size (fun k_ => (w.heap.size ≤ k_)) s_.2.2.1 y372) ∧ (Kd.V k39 39 w' w.heap.size (fun k_ => (P0_1_ k_ ∨ w.heap.size ≤ k_) ∧ some k_ ≠ (s_.2.1 : Value).ownBlock ∧ some k_ ≠ (s_.2.2.1 : Value).ownBlock ∧ k_ ≠ gb361 ∧ k_ ≠ gb365) (.slice A0_1 l0_1.length c0_1) l0_1) ∧ (∃ c_, (s_.2.2.1 : Value) = .slice (some s_.2.2.2) y372.length c_) ∧ (w'.heap[gb361]? = some (.cells #[.slice A0_0 l0_0.length c0_0, .slice A0_1 l0_1.length c0_1, .int .i64 a0_2] 25 (0, 0))) ∧ (w'.heap[gb365]? = some (.cells #[.slice A0_0 l0_0.length c0_0, .slice A0_1 l0_1.length c0_1, .int .i64 a0_2] 25 (0, 0))) ∧ (Below w.heap.size w w')) ?_ ?_
     rotate_left
     ·
      intro hJ0_3_4_8
      refine join_ (σ := Value × Value × Addr × Value) 4 #[tT,tT,tT,fF,tT,tT,tT,tT,tT,tT,tT,tT,tT,tT,fF,fF,fF] (fun s_ => [(28, s_.1), (32, s_.2.1), (36, .int .i64 (rd y372 (ji22))), (41, s_.2.2.2), (35, .pointer (some (s_.2.2.1.add ((ji22)).toNat))), (40, .agg #[.int .i64 (rd y372 (ji22)), .bool false, .int .i64 (wrap64 (1 + (wrap64 (a1)))), .slice none 0 0, .slice none 0 0])]) (fun s_ w' => (w'.cell? ⟨gb361, 0, none⟩ = some (.slice A0_0 l0_0.length c0_0) ∧ w'.cell? ⟨gb361, 1, none⟩ = some (.slice A0_1 l0_1.length c0_1) ∧ w'.cell? ⟨gb361, 2, none⟩ = some (.int .i64 a0_2)) ∧ (Kd.N k39 39 w' w.heap.size (fun k_ => (P0_1_ k_ ∨ w.heap.size ≤ k_) ∧ some k_ ≠ (s_.2.1 : Value).ownBlock ∧ some k_ ≠ (s_.2.2.2 : Value).ownBlock ∧ k_ ≠ gb361 ∧ k_ ≠ gb365) s_.1 y366) ∧ (Kd.R (Kd.int .i64) 3 w' w.heap.size (fun k_ => (w.heap.size ≤ k_)) s_.2.1 y372) ∧ (Kd.N k39 39 w' w.heap.size (fun k_ => (P0_1_ k_ ∨ w.heap.size ≤ k_) ∧ some k_ ≠ (s_.1 : Value).ownBlock ∧ some k_ ≠ (s_.2.1 : Value).ownBlock ∧ k_ ≠ gb361 ∧ k_ ≠ gb365) s_.2.2.2 y376) ∧ (Kd.V k39 39 w' w.heap.size (fun k_ => (P0_1_ k_ ∨ w.heap.size ≤ k_) ∧ some k_ ≠ (s_.1 : Value).ownBlock ∧ some k_ ≠ (s_.2.1 : Value).ownBlock ∧ some k_ ≠ (s_.2.2.2 : Value).ownBlock ∧ k_ ≠ gb361 ∧ k_ ≠ gb365) (.slice A0_1 l0_1.length c0_1) l0_1) ∧ (∃ c_, (s_.2.1 : Value) = .slice (some s_.2.2.1) y372.length c_) ∧ (w'.heap[gb361]? = some (.cells #[.slice A0_0 l0_0.length c0_0, .slice A0_1 l0_1.length c0_1, .int .i64 a0_2] 25 (0, 0))) ∧ (w'.heap[gb365]? = some (.cells #[.slice A0_0 l0_0.length c0_0, .slice A0_1 l0_1.length c0_1, .int .i64 a0_2] 25 (0, 0))) ∧ (Below w.heap.size w w')) ?_ ?_
      rotate_left
      ·
       intro hJ0_4_8_13
       refine join_ (σ := Value × Value × Value × Addr) 6 #[tT,tT,tT,tT,tT,tT,tT,tT,fF,tT,tT,tT,fF,fF,fF,fF,fF] (fun s_ => [(28, s_.1), (31, s_.2.1), (32, s_.2.2.1), (35, .pointer (some (s_.2.2.2.add ((ji22)).toNat)))]) (fun s_ w' => (w'.cell? ⟨gb361, 0, none⟩ = some (.slice A0_0 l0_0.length c0_0) ∧ w'.cell? ⟨gb361, 1, none⟩ = some (.slice A0_1 l0_1.length c0_1) ∧ w'.cell? ⟨gb361, 2, none⟩ = some (.int .i64 a0_2)) ∧ (Kd.N k39 39 w' w.heap.size (fun k_ => (P0_1_ k_ ∨ w.heap.size ≤ k_) ∧ some k_ ≠ (s_.2.2.1 : Value).ownBlock ∧ k_ ≠ gb361 ∧ k_ ≠ gb365) s_.2.1 y369) ∧ (Kd.R (Kd.int .i64) 3 w' w.heap.size (fun k_ => (w.heap.size ≤ k_)) s_.2.2.1 y372) ∧ (Kd.V k39 39 w' w.heap.size (fun k_ => (P0_1_ k_ ∨ w.heap.size ≤ k_) ∧ some k_ ≠ (s_.2.1 : Value).ownBlock ∧ some k_ ≠ (s_.2.2.1 : Value).ownBlock ∧ k_ ≠ gb361 ∧ k_ ≠ gb365) (.slice A0_1 l0_1.length c0_1) l0_1) ∧ (∃ c_, (s_.2.2.1 : Value) = .slice (some s_.2.2.2) y372.length c_) ∧ (w'.heap[gb361]? = some (.cells #[.slice A0_0 l0_0.length c0_0, .slice A0_1 l0_1.length c0_1, .int .i64 a0_2] 25 (0, 0))) ∧ (w'.heap[gb365]? = some (.cells #[.slice A0_0 l0_0.length c0_0, .slice A0_1 l0_1.length c0_1, .int .i64 a0_2] 25 (0, 0))) ∧ (Below w.heap.size w w')) ?_ ?_
       rotate_left
       ·
        intro hJ0_3_4
        refine join_ (σ := Value × Value × Addr) 5 #[tT,tT,tT,fF,tT,tT,tT,tT,tT,tT,tT,tT,tT,fF,fF,fF,fF] (fun s_ => [(28, s_.1), (32, s_.2.1), (36, .int .i64 (rd y372 (ji22))), (35, .pointer (some (s_.2.2.add ((ji22)).toNat))), (40, .agg #[.int .i64 (rd y372 (ji22)), .bool false, .int .i64 (wrap64 (1 + (wrap64 (a1)))), .slice none 0 0, .slice none 0 0])]) (fun s_ w' => (w'.cell? ⟨gb361, 0, none⟩ = some (.slice A0_0 l0_0.length c0_0) ∧ w'.cell? ⟨gb361, 1, none⟩ = some (.slice A0_1 l0_1.length c0_1) ∧ w'.cell? ⟨gb361, 2, none⟩ = some (.int .i64 a0_2)) ∧ (Kd.N k39 39 w' w.heap.size (fun k_ => (P0_1_ k_ ∨ w.heap.size ≤ k_) ∧ some k_ ≠ (s_.2.1 : Value).ownBlock ∧ k_ ≠ gb361 ∧ k_ ≠ gb365) s_.1 y366) ∧ (Kd.R (Kd.int .i64) 3 w' w.heap.size (fun k_ => (w.heap.size ≤ k_)) s_.2.1 y372) ∧ (Kd.V k39 39 w' w.heap.size (fun k_ => (P0_1_ k_ ∨ w.heap.size ≤ k_) ∧ some k_ ≠ (s_.1 : Value).ownBlock ∧ some k_ ≠ (s_.2.1 : Value).ownBlock ∧ k_ ≠ gb361 ∧ k_ ≠ gb365) (.slice A0_1 l0_1.length c0_1) l0_1) ∧ (∃ c_, (s_.2.1 : Value) = .slice (some s_.2.2) y372.length c_) ∧ (w'.heap[gb361]? = some (.cells #[.slice A0_0 l0_0.length c0_0, .slice A0_1 l0_1.length c0_1, .int .i64 a0_2] 25 (0, 0))) ∧ (w'.heap[gb365]? = some (.cells #[.slice A0_0 l0_0.length c0_0, .slice A0_1 l0_1.length c0_1, .int .i64 a0_2] 25 (0, 0))) ∧ (Below w.heap.size w w')) ?_ ?_
        rotate_left
        ·
         intro hJ0_4_8
         refine join_ (σ := Value × Addr × Value) 5 #[fF,tT,tT,fF,tT,tT,tT,tT,tT,tT,tT,tT,tT,tT,fF,fF,fF] (fun s_ => [(32, s_.1), (36, .int .i64 (rd y372 (ji22))), (41, s_.2.2), (35, .pointer (some (s_.2.1.add ((ji22)).toNat))), (40, .agg #[.int .i64 (rd y372 (ji22)), .bool false, .int .i64 (wrap64 (1 + (wrap64 (a1)))), .slice none 0 0, .slice none 0 0])]) (fun s_ w' => (w'.cell? ⟨gb361, 0, none⟩ = some (.slice A0_0 l0_0.length c0_0) ∧ w'.cell? ⟨gb361, 1, none⟩ = some (.slice A0_1 l0_1.length c0_1) ∧ w'.cell? ⟨gb361, 2, none⟩ = some (.int .i64 a0_2)) ∧ (Kd.R (Kd.int .i64) 3 w' w.heap.size (fun k_ => (w.heap.size ≤ k_)) s_.1 y372) ∧ (Kd.N k39 39 w' w.heap.size (fun k_ => (P0_1_ k_ ∨ w.heap.size ≤ k_) ∧ some k_ ≠ (s_.1 : Value).ownBlock ∧ k_ ≠ gb361 ∧ k_ ≠ gb365) s_.2.2 y376) ∧ (Kd.V k39 39 w' w.heap.size (fun k_ => (P0_1_ k_ ∨ w.heap.size ≤ k_) ∧ some k_ ≠ (s_.1 : Value).ownBlock ∧ some k_ ≠ (s_.2.2 : Value).ownBlock ∧ k_ ≠ gb361 ∧ k_ ≠ gb365) (.slice A0_1 l0_1.length c0_1) l0_1) ∧ (∃ c_, (s_.1 : Value) = .slice (some s_.2.1) y372.length c_) ∧ (w'.heap[gb361]? = some (.cells #[.slice A0_0 l0_0.length c0_0, .slice A0_1 l0_1.length c0_1, .int .i64 a0_2] 25 (0, 0))) ∧ (w'.heap[gb365]? = some (.cells #[.slice A0_0 l0_0.length c0_0, .slice A0_1 l0_1.length c0_1, .int .i64 a0_2] 25 (0, 0))) ∧ (Below w.heap.size w w')) ?_ ?_
         rotate_left
         ·
          intro hJ4_8_13
          refine join_ (σ := Value × Value) 8 #[tT,tT,tT,tT,fF,tT,tT,fF,fF,tT,tT,tT,fF,fF,fF,fF,fF] (fun s_ => [(28, s_.1), (31, s_.2)]) (fun s_ w' => (w'.cell? ⟨gb361, 0, none⟩ = some (.slice A0_0 l0_0.length c0_0) ∧ w'.cell? ⟨gb361, 1, none⟩ = some (.slice A0_1 l0_1.length c0_1) ∧ w'.cell? ⟨gb361, 2, none⟩ = some (.int .i64 a0_2)) ∧ (Kd.N k39 39 w' w.heap.size (fun k_ => (P0_1_ k_ ∨ w.heap.size ≤ k_) ∧ k_ ≠ gb361 ∧ k_ ≠ gb365) s_.2 y369) ∧ (Kd.V k39 39 w' w.heap.size (fun k_ => (P0_1_ k_ ∨ w.heap.size ≤ k_) ∧ some k_ ≠ (s_.2 : Value).ownBlock ∧ k_ ≠ gb361 ∧ k_ ≠ gb365) (.slice A0_1 l0_1.length c0_1) l0_1) ∧ (w'.heap[gb361]? = some (.cells #[.slice A0_0 l0_0.length c0_0, .slice A0_1 l0_1.length c0_1, .int .i64 a0_2] 25 (0, 0))) ∧ (w'.heap[gb365]? = some (.cells #[.slice A0_0 l0_0.length c0_0, .slice A0_1 l0_1.length c0_1, .int .i64 a0_2] 25 (0, 0))) ∧ (Below w.heap.size w w')) ?_ ?_
          rotate_left
          ·
           intro hJ0_3
           refine join_ (σ := Value × Value × Addr) 7 #[tT,tT,tT,fF,tT,tT,tT,tT,fF,tT,tT,tT,fF,fF,fF,fF,fF] (fun s_ => [(28, s_.1), (32, s_.2.1), (35, .pointer (some (s_.2.2.add ((ji22)).toNat)))]) (fun s_ w' => (w'.cell? ⟨gb361, 0, none⟩ = some (.slice A0_0 l0_0.length c0_0) ∧ w'.cell? ⟨gb361, 1, none⟩ = some (.slice A0_1 l0_1.length c0_1) ∧ w'.cell? ⟨gb361, 2, none⟩ = some (.int .i64 a0_2)) ∧ (Kd.N k39 39 w' w.heap.size (fun k_ => (P0_1_ k_ ∨ w.heap.size ≤ k_) ∧ some k_ ≠ (s_.2.1 : Value).ownBlock ∧ k_ ≠ gb361 ∧ k_ ≠ gb365) s_.1 y366) ∧ (Kd.R (Kd.int .i64) 3 w' w.heap.size (fun k_ => (w.heap.size ≤ k_)) s_.2.1 y372) ∧ (Kd.V k39 39 w' w.heap.size (fun k_ => (P0_1_ k_ ∨ w.heap.size ≤ k_) ∧ some k_ ≠ (s_.1 : Value).ownBlock ∧ some k_ ≠ (s_.2.1 : Value).ownBlock ∧ k_ ≠ gb361 ∧ k_ ≠ gb365) (.slice A0_1 l0_1.length c0_1) l0_1) ∧ (∃ c_, (s_.2.1 : Value) = .slice (some s_.2.2) y372.length c_) ∧ (w'.heap[gb361]? = some (.cells #[.slice A0_0 l0_0.length c0_0, .slice A0_1 l0_1.length c0_1, .int .i64 a0_2] 25 (0, 0))) ∧ (w'.heap[gb365]? = some (.cells #[.slice A0_0 l0_0.length c0_0, .slice A0_1 l0_1.length c0_1, .int .i64 a0_2] 25 (0, 0))) ∧ (Below w.heap.size w w')) ?_ ?_
           rotate_left
           ·
            intro hJ0_4
            refine join_ (σ := Value × Addr) 6 #[fF,tT,tT,fF,tT,tT,tT,tT,tT,tT,tT,tT,tT,fF,fF,fF,fF] (fun s_ => [(32, s_.1), (36, .int .i64 (rd y372 (ji22))), (35, .pointer (some (s_.2.add ((ji22)).toNat))), (40, .agg #[.int .i64 (rd y372 (ji22)), .bool false, .int .i64 (wrap64 (1 + (wrap64 (a1)))), .slice none 0 0, .slice none 0 0])]) (fun s_ w' => (w'.cell? ⟨gb361, 0, none⟩ = some (.slice A0_0 l0_0.length c0_0) ∧ w'.cell? ⟨gb361, 1, none⟩ = some (.slice A0_1 l0_1.length c0_1) ∧ w'.cell? ⟨gb361, 2, none⟩ = some (.int .i64 a0_2)) ∧ (Kd.R (Kd.int .i64) 3 w' w.heap.size (fun k_ => (w.heap.size ≤ k_)) s_.1 y372) ∧ (Kd.V k39 39 w' w.heap.size (fun k_ => (P0_1_ k_ ∨ w.heap.size ≤ k_) ∧ some k_ ≠ (s_.1 : Value).ownBlock ∧ k_ ≠ gb361 ∧ k_ ≠ gb365) (.slice A0_1 l0_1.length c0_1) l0_1) ∧ (∃ c_, (s_.1 : Value) = .slice (some s_.2) y372.length c_) ∧ (w'.heap[gb361]? = some (.cells #[.slice A0_0 l0_0.length c0_0, .slice A0_1 l0_1.length c0_1, .int .i64 a0_2] 25 (0, 0))) ∧ (w'.heap[gb365]? = some (.cells #[.slice A0_0 l0_0.length c0_0, .slice A0_1 l0_1.length c0_1, .int .i64 a0_2] 25 (0, 0))) ∧ (Below w.heap.size w w')) ?_ ?_
            rotate_left
            ·
             intro hJ4_8
             refine join_ (σ := Value) 9 #[tT,tT,tT,fF,fF,tT,tT,fF,fF,tT,tT,tT,fF,fF,fF,fF,fF] (fun s_ => [(28, s_)]) (fun s_ w' => (w'.cell? ⟨gb361, 0, none⟩ = some (.slice A0_0 l0_0.length c0_0) ∧ w'.cell? ⟨gb361, 1, none⟩ = some (.slice A0_1 l0_1.length c0_1) ∧ w'.cell? ⟨gb361, 2, none⟩ = some (.int .i64 a0_2)) ∧ (Kd.N k39 39 w' w.heap.size (fun k_ => (P0_1_ k_ ∨ w.heap.size ≤ k_) ∧ k_ ≠ gb361 ∧ k_ ≠ gb365) s_ y366) ∧ (Kd.V k39 39 w' w.heap.size (fun k_ => (P0_1_ k_ ∨ w.heap.size ≤ k_) ∧ some k_ ≠ (s_ : Value).ownBlock ∧ k_ ≠ gb361 ∧ k_ ≠ gb365) (.slice A0_1 l0_1.length c0_1) l0_1) ∧ (w'.heap[gb361]? = some (.cells #[.slice A0_0 l0_0.length c0_0, .slice A0_1 l0_1.length c0_1, .int .i64 a0_2] 25 (0, 0))) ∧ (w'.heap[gb365]? = some (.cells #[.slice A0_0 l0_0.length c0_0, .slice A0_1 l0_1.length c0_1, .int .i64 a0_2] 25 (0, 0))) ∧ (Below w.heap.size w w')) ?_ ?_
             rotate_left
             ·
              intro hJ0
              refine join_ (σ := Value × Addr) 8 #[fF,tT,tT,fF,tT,tT,tT,tT,fF,tT,tT,tT,fF,fF,fF,fF,fF] (fun s_ => [(32, s_.1), (35, .pointer (some (s_.2.add ((ji22)).toNat)))]) (fun s_ w' => (w'.cell? ⟨gb361, 0, none⟩ = some (.slice A0_0 l0_0.length c0_0) ∧ w'.cell? ⟨gb361, 1, none⟩ = some (.slice A0_1 l0_1.length c0_1) ∧ w'.cell? ⟨gb361, 2, none⟩ = some (.int .i64 a0_2)) ∧ (Kd.R (Kd.int .i64) 3 w' w.heap.size (fun k_ => (w.heap.size ≤ k_)) s_.1 y372) ∧ (Kd.V k39 39 w' w.heap.size (fun k_ => (P0_1_ k_ ∨ w.heap.size ≤ k_) ∧ some k_ ≠ (s_.1 : Value).ownBlock ∧ k_ ≠ gb361 ∧ k_ ≠ gb365) (.slice A0_1 l0_1.length c0_1) l0_1) ∧ (∃ c_, (s_.1 : Value) = .slice (some s_.2) y372.length c_) ∧ (w'.heap[gb361]? = some (.cells #[.slice A0_0 l0_0.length c0_0, .slice A0_1 l0_1.length c0_1, .int .i64 a0_2] 25 (0, 0))) ∧ (w'.heap[gb365]? = some (.cells #[.slice A0_0 l0_0.length c0_0, .slice A0_1 l0_1.length c0_1, .int .i64 a0_2] 25 (0, 0))) ∧ (Below w.heap.size w w')) ?_ ?_
              rotate_left
              ·
               intro hJ4
               refine two_ (i := 0) (j := 4) (Ni := some 28) (Nj := some 32) #[tT,tT,tT,fF,fF,tT,tT,fF,fF,tT,tT,tT,fF,fF,fF,fF,fF] #[fF,tT,tT,fF,tT,tT,tT,fF,fF,tT,tT,tT,fF,fF,fF,fF,fF] rfl rfl rfl rfl (two_of HT_.out (by kernel_rfl)) (by decide) (by decide) (fun K hK => ?_) (fun K hK => ?_)
               ·
                refine Kd.N_lit_step k39 _ 39 ?hg (N' := 28) ?hd (xs := ([] : List (S39))) (inner := []) (ok := (fun k_ => (P0_1_ k_ ∨ w.heap.size ≤ k_) ∧ k_ ≠ gb361 ∧ k_ ≠ gb365)) (okp := (fun k_ => (P0_1_ k_ ∨ w.heap.size ≤ k_) ∧ k_ ≠ gb361 ∧ k_ ≠ gb365)) ?hr ?hp (fun _ hk => hk) ((show ∀ k_, w36.heap.size ≤ k_ → (fun k_ => (P0_1_ k_ ∨ w.heap.size ≤ k_) ∧ k_ ≠ gb361 ∧ k_ ≠ gb365) k_ from fun k_ hk => ⟨(.inr (Nat.le_trans (below_size (by apply_rules (transparency := .reducible) only [HB.out, below_alloc, pw_below_drewN, below_drew1, below_set, GE361.out, GE365.out])) hk)), Kd.freshB (g := gb361) (o := _) BK361.out k_ hk, Kd.freshB (g := gb365) (o := _) BK365.out k_ hk⟩) _ (Nat.le_refl _)) (Below.refl _ _) (Nat.le_refl _) (by simp) ?_; (case hd => rfl); (case hg => rfl); (case hr => first | (go_simp; done) | (go_simp; rfl)); (case hp => exact (Reps.none _ _))
                intro v367 w37 ho38 hb hg_ hnew_
                clear hg_ hnew_
                (first | rw [← Ny366.out] at ho38 | (simp only [Int.reduceToNat] at ho38; rw [← Ny366.out] at ho38))
                have n0_ := Aside0.mk (Kd.V_elder' HO_362001.out (Kd.N_base ho38) hb)
                have n1_ := Aside0.mk (Kd.N_lower ho38 (below_size (by apply_rules (transparency := .reducible) only [HB.out, below_alloc, pw_below_drewN, below_drew1, below_set, GE361.out, GE365.out])))
                have n2_ := Aside0.mk (blk_below (g := gb361) (o := _) BK361.out hb)
                have n3_ := Aside0.mk (blk_below (g := gb365) (o := _) BK365.out hb)
                have n4_ := Aside0.mk (below_step (by apply_rules (transparency := .reducible) only [HB.out, below_alloc, pw_below_drewN, below_drew1, below_set, GE361.out, GE365.out]) hb)
                clear HO_362001 BK361 BK365 HB; have HO_362001 := n0_; have HO368 := n1_; have BK361 := n2_; have BK365 := n3_; have HB := n4_; clear n0_ n1_ n2_ n3_ n4_
                clear hb ho38
                refine hK.out _ _ ⟨(blk_cell BK361.out 0).trans rfl, (blk_cell BK361.out 1).trans rfl, (blk_cell BK361.out 2).trans rfl⟩ (fun hHeld => ?_)
                clear hK K
                refine norm_ (a' := ?_) ?_ ?_
                rotate_left; (show Act.put _ (some 28) _ = _; simp only [Act.put, List.setIfInBounds_toArray, List.set_cons_zero, List.set_cons_succ, i64_w, i32_w]; rfl)
                exact norm_ (by first | (simp only [putAll, Act.put, List.setIfInBounds_toArray, List.set_cons_zero, List.set_cons_succ]; done) | (simp only [putAll, Act.put, List.setIfInBounds_toArray, List.set_cons_zero, List.set_cons_succ]; rfl)) (hJ0 (v367) _ ⟨hHeld, HO368.out, (Kd.V_mono HO_362001.out (fun _ hk => ⟨hk.1.1, hk.2, hk.1.2.1, hk.1.2.2⟩)), BK361.out, BK365.out, (by apply_rules (transparency := .reducible) only [HB.out, below_alloc, pw_below_drewN, below_drew1, below_set, GE361.out, GE365.out])⟩)
               ·
                refine Kd.R_lit_step (Kd.int .i64) _ 3 ?hg (N := 32) ?hd (xs := ([1, 2, 4, 8, 16] : List Int)) (inner := [.int .i64 1, .int .i64 2, .int .i64 4, .int .i64 8, .int .i64 16]) (ok := fun _ => True) (okp := fun _ => True) ?hr ?hp (fun _ hk => hk) trivial (Below.refl _ _) (Nat.le_refl _) (by simp) ?_; (case hd => rfl); (case hg => rfl); (case hr => first | (go_simp; done) | (go_simp; rfl)); (case hp => exact (Reps.one (show Kd.M (Kd.int .i64) _ _ _ 1 [.int .i64 1] from rfl) (Reps.one (show Kd.M (Kd.int .i64) _ _ _ 2 [.int .i64 2] from rfl) (Reps.one (show Kd.M (Kd.int .i64) _ _ _ 4 [.int .i64 4] from rfl) (Reps.one (show Kd.M (Kd.int .i64) _ _ _ 8 [.int .i64 8] from rfl) (Reps.one (show Kd.M (Kd.int .i64) _ _ _ 16 [.int .i64 16] from rfl) (Reps.none _ _)))))))
                intro v373 w37 ho38 hb hg_ hnew_
                clear hg_ hnew_
                (first | rw [← Ny372.out] at ho38 | (simp only [Int.reduceToNat] at ho38; rw [← Ny372.out] at ho38))
                have n0_ := Aside0.mk (Kd.V_elder' HO_362001.out (Kd.R_base ho38) hb)
                have n1_ := Aside0.mk (Kd.R_lower (Kd.R_newM (M := fun k_ => (w.heap.size ≤ k_)) ho38 (below_size (by apply_rules (transparency := .reducible) only [HB.out, below_alloc, pw_below_drewN, below_drew1, below_set, GE361.out, GE365.out])) (fun k_ h_ => h_)) (below_size (by apply_rules (transparency := .reducible) only [HB.out, below_alloc, pw_below_drewN, below_drew1, below_set, GE361.out, GE365.out])))
                have n2_ := Aside0.mk (blk_below (g := gb361) (o := _) BK361.out hb)
                have n3_ := Aside0.mk (blk_below (g := gb365) (o := _) BK365.out hb)
                have n4_ := Aside0.mk (below_step (by apply_rules (transparency := .reducible) only [HB.out, below_alloc, pw_below_drewN, below_drew1, below_set, GE361.out, GE365.out]) hb)
                clear HO_362001 BK361 BK365 HB; have HO_362001 := n0_; have HO374 := n1_; have BK361 := n2_; have BK365 := n3_; have HB := n4_; clear n0_ n1_ n2_ n3_ n4_
                clear hb ho38
                obtain ⟨Ao39, co39, eo39⟩ := Kd.R_slice HO374.out
                subst eo39
                obtain ⟨ado39, fo39, _⟩ := Kd.at_int (Kd.R_reads' HO374.out).2.2 0 (by decide) (by rw [Ny372.out]; simp)
                cases fo39
                refine hK.out _ _ ⟨(blk_cell BK361.out 0).trans rfl, (blk_cell BK361.out 1).trans rfl, (blk_cell BK361.out 2).trans rfl⟩ (fun hHeld => ?_)
                clear hK K
                refine norm_ (a' := ?_) ?_ ?_
                rotate_left; (show Act.put _ (some 32) _ = _; simp only [Act.put, List.setIfInBounds_toArray, List.set_cons_zero, List.set_cons_succ, i64_w, i32_w]; rfl)
                refine pure_ (i := 7) (N := some 35) (v := ?_) (a' := ?_) #[fF,tT,tT,fF,tT,tT,tT,tT,fF,tT,tT,tT,fF,fF,fF,fF,fF] rfl rfl (any_of HT_.out (by kernel_rfl)) (fun _ _ _ h => h) (Or.inl ⟨by rfl, ?_⟩) ?_ ?_
                rotate_left; (intro w'; go_simp; with_reducible rfl); rotate_left; (simp only [Act.put, List.setIfInBounds_toArray, List.set_cons_zero, List.set_cons_succ, i64_w, i32_w]; rfl)
                exact norm_ (by first | (simp only [putAll, Act.put, List.setIfInBounds_toArray, List.set_cons_zero, List.set_cons_succ]; done) | (simp only [putAll, Act.put, List.setIfInBounds_toArray, List.set_cons_zero, List.set_cons_succ]; rfl)) (hJ4 (.slice (some ado39) y372.length co39, ado39) _ ⟨hHeld, (Kd.R_mono HO374.out (fun _ hk => hk.1)), (Kd.V_mono HO_362001.out (fun _ hk => ⟨hk.1.1, hk.2, hk.1.2.1, hk.1.2.2⟩)), ⟨_, rfl⟩, BK361.out, BK365.out, (by apply_rules (transparency := .reducible) only [HB.out, below_alloc, pw_below_drewN, below_drew1, below_set, GE361.out, GE365.out])⟩)
              ·
               rintro ⟨v373, adz_v373⟩ w40 ⟨hS_, h0_, h1_, h2_, h3_, h4_, h5_⟩
               have n0_ : Aside0 (Kd.R (Kd.int .i64) 3 w40 w.heap.size (fun k_ => (w.heap.size ≤ k_)) v373 y372) := ⟨h0_⟩
               have n1_ : Aside0 (Kd.V k39 39 w40 w.heap.size (fun k_ => (P0_1_ k_ ∨ w.heap.size ≤ k_) ∧ some k_ ≠ (v373 : Value).ownBlock ∧ k_ ≠ gb361 ∧ k_ ≠ gb365) (.slice A0_1 l0_1.length c0_1) l0_1) := ⟨h1_⟩
               have n2_ : Aside0 (∃ c_, (v373 : Value) = .slice (some adz_v373) y372.length c_) := ⟨h2_⟩
               have n3_ : Aside0 (w40.heap[gb361]? = some (.cells #[.slice A0_0 l0_0.length c0_0, .slice A0_1 l0_1.length c0_1, .int .i64 a0_2] 25 (0, 0))) := ⟨h3_⟩
               have n4_ : Aside0 (w40.heap[gb365]? = some (.cells #[.slice A0_0 l0_0.length c0_0, .slice A0_1 l0_1.length c0_1, .int .i64 a0_2] 25 (0, 0))) := ⟨h4_⟩
               have n5_ : Aside0 (Below w.heap.size w w40) := ⟨h5_⟩
               clear HO_362001 BK361 BK365 HB
               clear h0_ h1_ h2_ h3_ h4_ h5_
               have HO374 := n0_
               have HO_362001 := n1_
               have HA_HO374 := n2_
               have BK361 := n3_
               have BK365 := n4_
               have HB := n5_
               clear n0_ n1_ n2_ n3_ n4_ n5_
               have hHeld : w40.cell? ⟨gb361, 0, none⟩ = some (.slice A0_0 l0_0.length c0_0) ∧ w40.cell? ⟨gb361, 1, none⟩ = some (.slice A0_1 l0_1.length c0_1) ∧ w40.cell? ⟨gb361, 2, none⟩ = some (.int .i64 a0_2) := hS_
               obtain ⟨co41, eo41⟩ := HA_HO374.out
               clear HA_HO374
               subst eo41
               refine norm_ (a' := ?_) ?_ ?_
               rotate_left
               ·
                simp only [putAll, Act.put, List.setIfInBounds_toArray, List.set_cons_zero, List.set_cons_succ]
                rfl
               refine two_ (i := 0) (j := 8) (Ni := some 28) (Nj := some 36) #[tT,tT,tT,fF,tT,tT,tT,tT,fF,tT,tT,tT,fF,fF,fF,fF,fF] #[fF,tT,tT,fF,tT,tT,tT,tT,tT,tT,tT,tT,fF,fF,fF,fF,fF] rfl rfl rfl rfl (two_of HT_.out (by kernel_rfl)) (by decide) (by decide) (fun K hK => ?_) (fun K hK => ?_)
               ·
                refine Kd.N_lit_step k39 _ 39 ?hg (N' := 28) ?hd (xs := ([] : List (S39))) (inner := []) (ok := (fun k_ => (P0_1_ k_ ∨ w.heap.size ≤ k_) ∧ some k_ ≠ (.slice (some adz_v373) y372.length co41 : Value).ownBlock ∧ k_ ≠ gb361 ∧ k_ ≠ gb365)) (okp := (fun k_ => (P0_1_ k_ ∨ w.heap.size ≤ k_) ∧ some k_ ≠ (.slice (some adz_v373) y372.length co41 : Value).ownBlock ∧ k_ ≠ gb361 ∧ k_ ≠ gb365)) ?hr ?hp (fun _ hk => hk) ((show ∀ k_, w40.heap.size ≤ k_ → (fun k_ => (P0_1_ k_ ∨ w.heap.size ≤ k_) ∧ some k_ ≠ (.slice (some adz_v373) y372.length co41 : Value).ownBlock ∧ k_ ≠ gb361 ∧ k_ ≠ gb365) k_ from fun k_ hk => ⟨(.inr (Nat.le_trans (below_size (by apply_rules (transparency := .reducible) only [HB.out, below_alloc, pw_below_drewN, below_drew1, below_set, GE361.out, GE365.out])) hk)), Kd.fresh' (Kd.R_lt HO374.out) k_ hk, Kd.freshB (g := gb361) (o := _) BK361.out k_ hk, Kd.freshB (g := gb365) (o := _) BK365.out k_ hk⟩) _ (Nat.le_refl _)) (Below.refl _ _) (Nat.le_refl _) (by simp) ?_; (case hd => rfl); (case hg => rfl); (case hr => first | (go_simp; done) | (go_simp; rfl)); (case hp => exact (Reps.none _ _))
                intro v367 w42 ho43 hb hg_ hnew_
                clear hg_ hnew_
                (first | rw [← Ny366.out] at ho43 | (simp only [Int.reduceToNat] at ho43; rw [← Ny366.out] at ho43))
                have n0_ := Aside0.mk (Kd.V_elder' HO_362001.out (Kd.N_base ho43) hb)
                have n1_ := Aside0.mk (Kd.R_below HO374.out hb)
                have n2_ := Aside0.mk (Kd.N_lower ho43 (below_size (by apply_rules (transparency := .reducible) only [HB.out, below_alloc, pw_below_drewN, below_drew1, below_set, GE361.out, GE365.out])))
                have n3_ := Aside0.mk (blk_below (g := gb361) (o := _) BK361.out hb)
                have n4_ := Aside0.mk (blk_below (g := gb365) (o := _) BK365.out hb)
                have n5_ := Aside0.mk (below_step (by apply_rules (transparency := .reducible) only [HB.out, below_alloc, pw_below_drewN, below_drew1, below_set, GE361.out, GE365.out]) hb)
                clear HO_362001 HO374 BK361 BK365 HB; have HO_362001 := n0_; have HO374 := n1_; have HO368 := n2_; have BK361 := n3_; have BK365 := n4_; have HB := n5_; clear n0_ n1_ n2_ n3_ n4_ n5_
                clear hb ho43
                refine hK.out _ _ ⟨(blk_cell BK361.out 0).trans rfl, (blk_cell BK361.out 1).trans rfl, (blk_cell BK361.out 2).trans rfl⟩ (fun hHeld => ?_)
                clear hK K
                refine norm_ (a' := ?_) ?_ ?_
                rotate_left; (show Act.put _ (some 28) _ = _; simp only [Act.put, List.setIfInBounds_toArray, List.set_cons_zero, List.set_cons_succ, i64_w, i32_w]; rfl)
                exact norm_ (by first | (simp only [putAll, Act.put, List.setIfInBounds_toArray, List.set_cons_zero, List.set_cons_succ]; done) | (simp only [putAll, Act.put, List.setIfInBounds_toArray, List.set_cons_zero, List.set_cons_succ]; rfl)) (hJ0_4 (v367, .slice (some adz_v373) y372.length co41, adz_v373) _ ⟨hHeld, HO368.out, HO374.out, (Kd.V_mono HO_362001.out (fun _ hk => ⟨hk.1.1, hk.2, hk.1.2.1, hk.1.2.2.1, hk.1.2.2.2⟩)), ⟨_, rfl⟩, BK361.out, BK365.out, (by apply_rules (transparency := .reducible) only [HB.out, below_alloc, pw_below_drewN, below_drew1, below_set, GE361.out, GE365.out])⟩)
               ·
                (have p375 : 0 ≤ ((ji22) : Int) := of_decide_eq_true (by first | (with_reducible assumption) | assumption); have q375 : (ji22) < (y372.length : Int) := of_decide_eq_true (by first | (with_reducible assumption) | assumption); obtain ⟨ad375, e375, hx375_0⟩ := Kd.at_int (Kd.R_reads' HO374.out).2.2 (ji22) p375 q375; obtain rfl : adz_v373 = ad375 := (by injection e375))
                refine value_ (w1 := ?_) (v := ?_) (by rfl) rfl ?_ ?_
                rotate_left 2
                ·
                 go_simp
                 constructor
                 ·
                  rfl
                 ·
                  rfl
                clear hx375_0
                refine hK.out _ _ ⟨(blk_cell BK361.out 0).trans rfl, (blk_cell BK361.out 1).trans rfl, (blk_cell BK361.out 2).trans rfl⟩ (fun hHeld => ?_)
                clear hK K
                refine norm_ (a' := ?_) ?_ ?_
                rotate_left; (show Act.put _ (some 36) _ = _; simp only [Act.put, List.setIfInBounds_toArray, List.set_cons_zero, List.set_cons_succ, i64_w, i32_w]; rfl)
                refine pure_ (i := 12) (N := some 40) (v := ?_) (a' := ?_) #[fF,tT,tT,fF,tT,tT,tT,tT,tT,tT,tT,tT,tT,fF,fF,fF,fF] rfl rfl (any_of HT_.out (by kernel_rfl)) (fun _ _ _ h => h) (Or.inl ⟨by rfl, ?_⟩) ?_ ?_
                rotate_left; (intro w'; go_simp; with_reducible rfl); rotate_left; (simp only [Act.put, List.setIfInBounds_toArray, List.set_cons_zero, List.set_cons_succ, i64_w, i32_w]; rfl)
                exact norm_ (by first | (simp only [putAll, Act.put, List.setIfInBounds_toArray, List.set_cons_zero, List.set_cons_succ]; done) | (simp only [putAll, Act.put, List.setIfInBounds_toArray, List.set_cons_zero, List.set_cons_succ]; rfl)) (hJ4_8 (.slice (some adz_v373) y372.length co41, adz_v373) _ ⟨hHeld, HO374.out, HO_362001.out, ⟨_, rfl⟩, BK361.out, BK365.out, (by apply_rules (transparency := .reducible) only [HB.out, below_alloc, pw_below_drewN, below_drew1, below_set, GE361.out, GE365.out])⟩)
             ·
              rintro v367 w39 ⟨hS_, h0_, h1_, h2_, h3_, h4_⟩
              have n0_ : Aside0 (Kd.N k39 39 w39 w.heap.size (fun k_ => (P0_1_ k_ ∨ w.heap.size ≤ k_) ∧ k_ ≠ gb361 ∧ k_ ≠ gb365) v367 y366) := ⟨h0_⟩
              have n1_ : Aside0 (Kd.V k39 39 w39 w.heap.size (fun k_ => (P0_1_ k_ ∨ w.heap.size ≤ k_) ∧ some k_ ≠ (v367 : Value).ownBlock ∧ k_ ≠ gb361 ∧ k_ ≠ gb365) (.slice A0_1 l0_1.length c0_1) l0_1) := ⟨h1_⟩
              have n2_ : Aside0 (w39.heap[gb361]? = some (.cells #[.slice A0_0 l0_0.length c0_0, .slice A0_1 l0_1.length c0_1, .int .i64 a0_2] 25 (0, 0))) := ⟨h2_⟩
              have n3_ : Aside0 (w39.heap[gb365]? = some (.cells #[.slice A0_0 l0_0.length c0_0, .slice A0_1 l0_1.length c0_1, .int .i64 a0_2] 25 (0, 0))) := ⟨h3_⟩
              have n4_ : Aside0 (Below w.heap.size w w39) := ⟨h4_⟩
              clear HO_362001 BK361 BK365 HB
              clear h0_ h1_ h2_ h3_ h4_
              have HO368 := n0_
              have HO_362001 := n1_
              have BK361 := n2_
              have BK365 := n3_
              have HB := n4_
              clear n0_ n1_ n2_ n3_ n4_
              have hHeld : w39.cell? ⟨gb361, 0, none⟩ = some (.slice A0_0 l0_0.length c0_0) ∧ w39.cell? ⟨gb361, 1, none⟩ = some (.slice A0_1 l0_1.length c0_1) ∧ w39.cell? ⟨gb361, 2, none⟩ = some (.int .i64 a0_2) := hS_
              refine norm_ (a' := ?_) ?_ ?_
              rotate_left
              ·
               simp only [putAll, Act.put, List.setIfInBounds_toArray, List.set_cons_zero, List.set_cons_succ]
               rfl
              refine two_ (i := 3) (j := 4) (Ni := some 31) (Nj := some 32) #[tT,tT,tT,tT,fF,tT,tT,fF,fF,tT,tT,tT,fF,fF,fF,fF,fF] #[tT,tT,tT,fF,tT,tT,tT,fF,fF,tT,tT,tT,fF,fF,fF,fF,fF] rfl rfl rfl rfl (two_of HT_.out (by kernel_rfl)) (by decide) (by decide) (fun K hK => ?_) (fun K hK => ?_)
              ·
               refine Kd.N_append_rows_step k39 (w0 := w) w.heap.size (by rfl) (.tmp 28) (.tmp 30) 23 39 (.agg #[(.int .i64 0), (.bool false), (.int .i64 0), (.slice none 0 0), (.slice none 0 0)]) 72 rfl Try.underlying23 info39 rfl (by decide) (by omega) v367 y366 l0_1 _ _ _ (fun k_ => (P0_1_ k_ ∨ w.heap.size ≤ k_) ∧ k_ ≠ gb361 ∧ k_ ≠ gb365) (fun k_ => ((fun k_ => (P0_1_ k_ ∨ w.heap.size ≤ k_) ∧ k_ ≠ gb361 ∧ k_ ≠ gb365)) k_ ∧ some k_ ≠ (v367 : Value).ownBlock) rfl rfl ?aO ?aR (fun _ hk => hk) ?aF ?aB ?aS ?aL ?_
               (case aR => exact (by skip; exact Kd.V_F (Kd.V_mono (ok' := (fun k_ => ((fun k_ => (P0_1_ k_ ∨ w.heap.size ≤ k_) ∧ k_ ≠ gb361 ∧ k_ ≠ gb365)) k_ ∧ some k_ ≠ (v367 : Value).ownBlock)) (HO_362001.out) (fun k_ hk => ⟨⟨hk.1, hk.2.2.1, hk.2.2.2⟩, hk.2.1⟩))))
               (case aB => exact (by apply_rules (transparency := .reducible) only [HB.out, below_alloc, pw_below_drewN, below_drew1, below_set, GE361.out, GE365.out]))
               (case aF => exact (fun k_ hk => ⟨(.inr (Nat.le_trans (below_size (by apply_rules (transparency := .reducible) only [HB.out, below_alloc, pw_below_drewN, below_drew1, below_set, GE361.out, GE365.out])) hk)), Kd.freshB (g := gb361) (o := _) BK361.out k_ hk, Kd.freshB (g := gb365) (o := _) BK365.out k_ hk⟩))
               (case aO => exact HO368.out)
               (case aS => exact (below_size (by apply_rules (transparency := .reducible) only [HB.out, below_alloc, pw_below_drewN, below_drew1, below_set, GE361.out, GE365.out])))
               (case aL => have := LMc21.out; omega)
               intro v370 w40 ho hb hg hat
               rw [← Ny369.out] at ho
               have n0_ := Aside0.mk (Kd.V_afterv (ok := (fun k_ => (P0_1_ k_ ∨ w.heap.size ≤ k_) ∧ k_ ≠ gb361 ∧ k_ ≠ gb365)) (Kd.V_mono HO_362001.out (fun _ hk => ⟨⟨hk.1, hk.2.2.1, hk.2.2.2⟩, hk.2.1⟩)) hg hat)
               have n1_ := Aside0.mk (blk_grown (g := gb361) (o := _) BK361.out hg (Kd.N_ne HO368.out BK361.out (by decide)))
               have n2_ := Aside0.mk (blk_grown (g := gb365) (o := _) BK365.out hg (Kd.N_ne HO368.out BK365.out (by decide)))
               have n3_ := Aside0.mk (hb)
               have n4_ := Aside0.mk (ho)
               clear HO_362001 BK361 BK365 HB HO368; have HO_362001 := n0_; have BK361 := n1_; have BK365 := n2_; have HB := n3_; have HO371 := n4_; clear n0_ n1_ n2_ n3_ n4_
               clear ho hb hg hat
               refine hK.out _ _ ⟨(blk_cell BK361.out 0).trans rfl, (blk_cell BK361.out 1).trans rfl, (blk_cell BK361.out 2).trans rfl⟩ (fun hHeld => ?_)
               clear hK K
               refine norm_ (a' := ?_) ?_ ?_
               rotate_left; (show Act.put _ (some 31) _ = _; simp only [Act.put, List.setIfInBounds_toArray, List.set_cons_zero, List.set_cons_succ, i64_w, i32_w]; rfl)
               exact norm_ (by first | (simp only [putAll, Act.put, List.setIfInBounds_toArray, List.set_cons_zero, List.set_cons_succ]; done) | (simp only [putAll, Act.put, List.setIfInBounds_toArray, List.set_cons_zero, List.set_cons_succ]; rfl)) (hJ0_3 (v367, v370) _ ⟨hHeld, HO371.out, (Kd.V_mono HO_362001.out (fun _ hk => ⟨hk.1.1, hk.2, hk.1.2.1, hk.1.2.2⟩)), BK361.out, BK365.out, (by apply_rules (transparency := .reducible) only [HB.out, below_alloc, pw_below_drewN, below_drew1, below_set, GE361.out, GE365.out])⟩)
              ·
               refine Kd.R_lit_step (Kd.int .i64) _ 3 ?hg (N := 32) ?hd (xs := ([1, 2, 4, 8, 16] : List Int)) (inner := [.int .i64 1, .int .i64 2, .int .i64 4, .int .i64 8, .int .i64 16]) (ok := fun _ => True) (okp := fun _ => True) ?hr ?hp (fun _ hk => hk) trivial (Below.refl _ _) (Nat.le_refl _) (by simp) ?_; (case hd => rfl); (case hg => rfl); (case hr => first | (go_simp; done) | (go_simp; rfl)); (case hp => exact (Reps.one (show Kd.M (Kd.int .i64) _ _ _ 1 [.int .i64 1] from rfl) (Reps.one (show Kd.M (Kd.int .i64) _ _ _ 2 [.int .i64 2] from rfl) (Reps.one (show Kd.M (Kd.int .i64) _ _ _ 4 [.int .i64 4] from rfl) (Reps.one (show Kd.M (Kd.int .i64) _ _ _ 8 [.int .i64 8] from rfl) (Reps.one (show Kd.M (Kd.int .i64) _ _ _ 16 [.int .i64 16] from rfl) (Reps.none _ _)))))))
               intro v373 w40 ho41 hb hg_ hnew_
               clear hg_ hnew_
               (first | rw [← Ny372.out] at ho41 | (simp only [Int.reduceToNat] at ho41; rw [← Ny372.out] at ho41))
               have n0_ := Aside0.mk (Kd.V_elder' HO_362001.out (Kd.R_base ho41) hb)
               have n1_ := Aside0.mk (Kd.N_elder' HO368.out (Kd.R_base ho41) hb)
               have n2_ := Aside0.mk (Kd.R_lower (Kd.R_newM (M := fun k_ => (w.heap.size ≤ k_)) ho41 (below_size (by apply_rules (transparency := .reducible) only [HB.out, below_alloc, pw_below_drewN, below_drew1, below_set, GE361.out, GE365.out])) (fun k_ h_ => h_)) (below_size (by apply_rules (transparency := .reducible) only [HB.out, below_alloc, pw_below_drewN, below_drew1, below_set, GE361.out, GE365.out])))
               have n3_ := Aside0.mk (blk_below (g := gb361) (o := _) BK361.out hb)
               have n4_ := Aside0.mk (blk_below (g := gb365) (o := _) BK365.out hb)
               have n5_ := Aside0.mk (below_step (by apply_rules (transparency := .reducible) only [HB.out, below_alloc, pw_below_drewN, below_drew1, below_set, GE361.out, GE365.out]) hb)
               clear HO_362001 HO368 BK361 BK365 HB; have HO_362001 := n0_; have HO368 := n1_; have HO374 := n2_; have BK361 := n3_; have BK365 := n4_; have HB := n5_; clear n0_ n1_ n2_ n3_ n4_ n5_
               clear hb ho41
               obtain ⟨Ao42, co42, eo42⟩ := Kd.R_slice HO374.out
               subst eo42
               obtain ⟨ado42, fo42, _⟩ := Kd.at_int (Kd.R_reads' HO374.out).2.2 0 (by decide) (by rw [Ny372.out]; simp)
               cases fo42
               refine hK.out _ _ ⟨(blk_cell BK361.out 0).trans rfl, (blk_cell BK361.out 1).trans rfl, (blk_cell BK361.out 2).trans rfl⟩ (fun hHeld => ?_)
               clear hK K
               refine norm_ (a' := ?_) ?_ ?_
               rotate_left; (show Act.put _ (some 32) _ = _; simp only [Act.put, List.setIfInBounds_toArray, List.set_cons_zero, List.set_cons_succ, i64_w, i32_w]; rfl)
               refine pure_ (i := 7) (N := some 35) (v := ?_) (a' := ?_) #[tT,tT,tT,fF,tT,tT,tT,tT,fF,tT,tT,tT,fF,fF,fF,fF,fF] rfl rfl (any_of HT_.out (by kernel_rfl)) (fun _ _ _ h => h) (Or.inl ⟨by rfl, ?_⟩) ?_ ?_
               rotate_left; (intro w'; go_simp; with_reducible rfl); rotate_left; (simp only [Act.put, List.setIfInBounds_toArray, List.set_cons_zero, List.set_cons_succ, i64_w, i32_w]; rfl)
               exact norm_ (by first | (simp only [putAll, Act.put, List.setIfInBounds_toArray, List.set_cons_zero, List.set_cons_succ]; done) | (simp only [putAll, Act.put, List.setIfInBounds_toArray, List.set_cons_zero, List.set_cons_succ]; rfl)) (hJ0_4 (v367, .slice (some ado42) y372.length co42, ado42) _ ⟨hHeld, (Kd.N_mono HO368.out (fun _ hk => ⟨hk.1.1, hk.2, hk.1.2.1, hk.1.2.2⟩)), (Kd.R_mono HO374.out (fun _ hk => hk.1)), (Kd.V_mono HO_362001.out (fun _ hk => ⟨hk.1.1, hk.1.2.1, hk.2, hk.1.2.2.1, hk.1.2.2.2⟩)), ⟨_, rfl⟩, BK361.out, BK365.out, (by apply_rules (transparency := .reducible) only [HB.out, below_alloc, pw_below_drewN, below_drew1, below_set, GE361.out, GE365.out])⟩)
            ·
             rintro ⟨v373, adz_v373⟩ w40 ⟨hS_, h0_, h1_, h2_, h3_, h4_, h5_⟩
             have n0_ : Aside0 (Kd.R (Kd.int .i64) 3 w40 w.heap.size (fun k_ => (w.heap.size ≤ k_)) v373 y372) := ⟨h0_⟩
             have n1_ : Aside0 (Kd.V k39 39 w40 w.heap.size (fun k_ => (P0_1_ k_ ∨ w.heap.size ≤ k_) ∧ some k_ ≠ (v373 : Value).ownBlock ∧ k_ ≠ gb361 ∧ k_ ≠ gb365) (.slice A0_1 l0_1.length c0_1) l0_1) := ⟨h1_⟩
             have n2_ : Aside0 (∃ c_, (v373 : Value) = .slice (some adz_v373) y372.length c_) := ⟨h2_⟩
             have n3_ : Aside0 (w40.heap[gb361]? = some (.cells #[.slice A0_0 l0_0.length c0_0, .slice A0_1 l0_1.length c0_1, .int .i64 a0_2] 25 (0, 0))) := ⟨h3_⟩
             have n4_ : Aside0 (w40.heap[gb365]? = some (.cells #[.slice A0_0 l0_0.length c0_0, .slice A0_1 l0_1.length c0_1, .int .i64 a0_2] 25 (0, 0))) := ⟨h4_⟩
             have n5_ : Aside0 (Below w.heap.size w w40) := ⟨h5_⟩
             clear HO_362001 BK361 BK365 HB
             clear h0_ h1_ h2_ h3_ h4_ h5_
             have HO374 := n0_
             have HO_362001 := n1_
             have HA_HO374 := n2_
             have BK361 := n3_
             have BK365 := n4_
             have HB := n5_
             clear n0_ n1_ n2_ n3_ n4_ n5_
             have hHeld : w40.cell? ⟨gb361, 0, none⟩ = some (.slice A0_0 l0_0.length c0_0) ∧ w40.cell? ⟨gb361, 1, none⟩ = some (.slice A0_1 l0_1.length c0_1) ∧ w40.cell? ⟨gb361, 2, none⟩ = some (.int .i64 a0_2) := hS_
             obtain ⟨co41, eo41⟩ := HA_HO374.out
             clear HA_HO374
             subst eo41
             refine norm_ (a' := ?_) ?_ ?_
             rotate_left
             ·
              simp only [putAll, Act.put, List.setIfInBounds_toArray, List.set_cons_zero, List.set_cons_succ]
              rfl
             refine two_ (i := 0) (j := 13) (Ni := some 28) (Nj := some 41) #[tT,tT,tT,fF,tT,tT,tT,tT,tT,tT,tT,tT,tT,fF,fF,fF,fF] #[fF,tT,tT,fF,tT,tT,tT,tT,tT,tT,tT,tT,tT,tT,fF,fF,fF] rfl rfl rfl rfl (two_of HT_.out (by kernel_rfl)) (by decide) (by decide) (fun K hK => ?_) (fun K hK => ?_)
             ·
              refine Kd.N_lit_step k39 _ 39 ?hg (N' := 28) ?hd (xs := ([] : List (S39))) (inner := []) (ok := (fun k_ => (P0_1_ k_ ∨ w.heap.size ≤ k_) ∧ some k_ ≠ (.slice (some adz_v373) y372.length co41 : Value).ownBlock ∧ k_ ≠ gb361 ∧ k_ ≠ gb365)) (okp := (fun k_ => (P0_1_ k_ ∨ w.heap.size ≤ k_) ∧ some k_ ≠ (.slice (some adz_v373) y372.length co41 : Value).ownBlock ∧ k_ ≠ gb361 ∧ k_ ≠ gb365)) ?hr ?hp (fun _ hk => hk) ((show ∀ k_, w40.heap.size ≤ k_ → (fun k_ => (P0_1_ k_ ∨ w.heap.size ≤ k_) ∧ some k_ ≠ (.slice (some adz_v373) y372.length co41 : Value).ownBlock ∧ k_ ≠ gb361 ∧ k_ ≠ gb365) k_ from fun k_ hk => ⟨(.inr (Nat.le_trans (below_size (by apply_rules (transparency := .reducible) only [HB.out, below_alloc, pw_below_drewN, below_drew1, below_set, GE361.out, GE365.out])) hk)), Kd.fresh' (Kd.R_lt HO374.out) k_ hk, Kd.freshB (g := gb361) (o := _) BK361.out k_ hk, Kd.freshB (g := gb365) (o := _) BK365.out k_ hk⟩) _ (Nat.le_refl _)) (Below.refl _ _) (Nat.le_refl _) (by simp) ?_; (case hd => rfl); (case hg => rfl); (case hr => first | (go_simp; done) | (go_simp; rfl)); (case hp => exact (Reps.none _ _))
              intro v367 w42 ho43 hb hg_ hnew_
              clear hg_ hnew_
              (first | rw [← Ny366.out] at ho43 | (simp only [Int.reduceToNat] at ho43; rw [← Ny366.out] at ho43))
              have n0_ := Aside0.mk (Kd.V_elder' HO_362001.out (Kd.N_base ho43) hb)
              have n1_ := Aside0.mk (Kd.R_below HO374.out hb)
              have n2_ := Aside0.mk (Kd.N_lower ho43 (below_size (by apply_rules (transparency := .reducible) only [HB.out, below_alloc, pw_below_drewN, below_drew1, below_set, GE361.out, GE365.out])))
              have n3_ := Aside0.mk (blk_below (g := gb361) (o := _) BK361.out hb)
              have n4_ := Aside0.mk (blk_below (g := gb365) (o := _) BK365.out hb)
              have n5_ := Aside0.mk (below_step (by apply_rules (transparency := .reducible) only [HB.out, below_alloc, pw_below_drewN, below_drew1, below_set, GE361.out, GE365.out]) hb)
              clear HO_362001 HO374 BK361 BK365 HB; have HO_362001 := n0_; have HO374 := n1_; have HO368 := n2_; have BK361 := n3_; have BK365 := n4_; have HB := n5_; clear n0_ n1_ n2_ n3_ n4_ n5_
              clear hb ho43
              refine hK.out _ _ ⟨(blk_cell BK361.out 0).trans rfl, (blk_cell BK361.out 1).trans rfl, (blk_cell BK361.out 2).trans rfl⟩ (fun hHeld => ?_)
              clear hK K
              refine norm_ (a' := ?_) ?_ ?_
              rotate_left; (show Act.put _ (some 28) _ = _; simp only [Act.put, List.setIfInBounds_toArray, List.set_cons_zero, List.set_cons_succ, i64_w, i32_w]; rfl)
              exact norm_ (by first | (simp only [putAll, Act.put, List.setIfInBounds_toArray, List.set_cons_zero, List.set_cons_succ]; done) | (simp only [putAll, Act.put, List.setIfInBounds_toArray, List.set_cons_zero, List.set_cons_succ]; rfl)) (hJ0_4_8 (v367, .slice (some adz_v373) y372.length co41, adz_v373) _ ⟨hHeld, HO368.out, HO374.out, (Kd.V_mono HO_362001.out (fun _ hk => ⟨hk.1.1, hk.2, hk.1.2.1, hk.1.2.2.1, hk.1.2.2.2⟩)), ⟨_, rfl⟩, BK361.out, BK365.out, (by apply_rules (transparency := .reducible) only [HB.out, below_alloc, pw_below_drewN, below_drew1, below_set, GE361.out, GE365.out])⟩)
             ·
              refine Kd.N_lit_step k39 _ 39 ?hg (N' := 41) ?hd (xs := ([(⟨rd y372 (ji22), false, wrap64 (1 + (wrap64 (a1))), ([] : List Int), ([] : List (S71))⟩ : S39)] : List (S39))) (inner := [.int .i64 (rd y372 (ji22)), .bool false, .int .i64 (wrap64 (1 + (wrap64 (a1)))), .slice none 0 0, .slice none 0 0]) (ok := (fun k_ => (P0_1_ k_ ∨ w.heap.size ≤ k_) ∧ some k_ ≠ (.slice (some adz_v373) y372.length co41 : Value).ownBlock ∧ k_ ≠ gb361 ∧ k_ ≠ gb365)) (okp := (fun k_ => (P0_1_ k_ ∨ w.heap.size ≤ k_) ∧ some k_ ≠ (.slice (some adz_v373) y372.length co41 : Value).ownBlock ∧ k_ ≠ gb361 ∧ k_ ≠ gb365)) ?hr ?hp (fun _ hk => hk) ((show ∀ k_, w40.heap.size ≤ k_ → (fun k_ => (P0_1_ k_ ∨ w.heap.size ≤ k_) ∧ some k_ ≠ (.slice (some adz_v373) y372.length co41 : Value).ownBlock ∧ k_ ≠ gb361 ∧ k_ ≠ gb365) k_ from fun k_ hk => ⟨(.inr (Nat.le_trans (below_size (by apply_rules (transparency := .reducible) only [HB.out, below_alloc, pw_below_drewN, below_drew1, below_set, GE361.out, GE365.out])) hk)), Kd.fresh' (Kd.R_lt HO374.out) k_ hk, Kd.freshB (g := gb361) (o := _) BK361.out k_ hk, Kd.freshB (g := gb365) (o := _) BK365.out k_ hk⟩) _ (Nat.le_refl _)) (Below.refl _ _) (Nat.le_refl _) (by simp) ?_; (case hd => rfl); (case hg => rfl); (case hr => first | (go_simp; done) | (go_simp; rfl)); (case hp => exact (Reps.c5 (show Kd.FK k39 _ _ (⟨rd y372 (ji22), false, wrap64 (1 + (wrap64 (a1))), ([] : List Int), ([] : List (S71))⟩ : S39) [.int .i64 (rd y372 (ji22)), .bool false, .int .i64 (wrap64 (1 + (wrap64 (a1)))), .slice none 0 0, .slice none 0 0] from (k39_mkF _ _ (⟨rd y372 (ji22), false, wrap64 (1 + (wrap64 (a1))), ([] : List Int), ([] : List (S71))⟩ : S39) (Nat.le_refl _) (Kd.F_nil _ _ _) (Nat.le_refl _) (Kd.F_nil _ _ _))) (Reps.none _ _)))
              intro v377 w42 ho43 hb hg_ hnew_
              clear hg_ hnew_
              (first | rw [← Ny376.out] at ho43 | (simp only [Int.reduceToNat] at ho43; rw [← Ny376.out] at ho43))
              have n0_ := Aside0.mk (Kd.V_elder' HO_362001.out (Kd.N_base ho43) hb)
              have n1_ := Aside0.mk (Kd.R_below HO374.out hb)
              have n2_ := Aside0.mk (Kd.N_lower ho43 (below_size (by apply_rules (transparency := .reducible) only [HB.out, below_alloc, pw_below_drewN, below_drew1, below_set, GE361.out, GE365.out])))
              have n3_ := Aside0.mk (blk_below (g := gb361) (o := _) BK361.out hb)
              have n4_ := Aside0.mk (blk_below (g := gb365) (o := _) BK365.out hb)
              have n5_ := Aside0.mk (below_step (by apply_rules (transparency := .reducible) only [HB.out, below_alloc, pw_below_drewN, below_drew1, below_set, GE361.out, GE365.out]) hb)
              clear HO_362001 HO374 BK361 BK365 HB; have HO_362001 := n0_; have HO374 := n1_; have HO378 := n2_; have BK361 := n3_; have BK365 := n4_; have HB := n5_; clear n0_ n1_ n2_ n3_ n4_ n5_
              clear hb ho43
              refine hK.out _ _ ⟨(blk_cell BK361.out 0).trans rfl, (blk_cell BK361.out 1).trans rfl, (blk_cell BK361.out 2).trans rfl⟩ (fun hHeld => ?_)
              clear hK K
              refine norm_ (a' := ?_) ?_ ?_
              rotate_left; (show Act.put _ (some 41) _ = _; simp only [Act.put, List.setIfInBounds_toArray, List.set_cons_zero, List.set_cons_succ, i64_w, i32_w]; rfl)
              exact norm_ (by first | (simp only [putAll, Act.put, List.setIfInBounds_toArray, List.set_cons_zero, List.set_cons_succ]; done) | (simp only [putAll, Act.put, List.setIfInBounds_toArray, List.set_cons_zero, List.set_cons_succ]; rfl)) (hJ4_8_13 (.slice (some adz_v373) y372.length co41, adz_v373, v377) _ ⟨hHeld, HO374.out, HO378.out, (Kd.V_mono HO_362001.out (fun _ hk => ⟨hk.1.1, hk.1.2.1, hk.2, hk.1.2.2.1, hk.1.2.2.2⟩)), ⟨_, rfl⟩, BK361.out, BK365.out, (by apply_rules (transparency := .reducible) only [HB.out, below_alloc, pw_below_drewN, below_drew1, below_set, GE361.out, GE365.out])⟩)
           ·
            rintro ⟨v367, v373, adz_v373⟩ w42 ⟨hS_, h0_, h1_, h2_, h3_, h4_, h5_, h6_⟩
            have n0_ : Aside0 (Kd.N k39 39 w42 w.heap.size (fun k_ => (P0_1_ k_ ∨ w.heap.size ≤ k_) ∧ some k_ ≠ (v373 : Value).ownBlock ∧ k_ ≠ gb361 ∧ k_ ≠ gb365) v367 y366) := ⟨h0_⟩
            have n1_ : Aside0 (Kd.R (Kd.int .i64) 3 w42 w.heap.size (fun k_ => (w.heap.size ≤ k_)) v373 y372) := ⟨h1_⟩
            have n2_ : Aside0 (Kd.V k39 39 w42 w.heap.size (fun k_ => (P0_1_ k_ ∨ w.heap.size ≤ k_) ∧ some k_ ≠ (v367 : Value).ownBlock ∧ some k_ ≠ (v373 : Value).ownBlock ∧ k_ ≠ gb361 ∧ k_ ≠ gb365) (.slice A0_1 l0_1.length c0_1) l0_1) := ⟨h2_⟩
            have n3_ : Aside0 (∃ c_, (v373 : Value) = .slice (some adz_v373) y372.length c_) := ⟨h3_⟩
            have n4_ : Aside0 (w42.heap[gb361]? = some (.cells #[.slice A0_0 l0_0.length c0_0, .slice A0_1 l0_1.length c0_1, .int .i64 a0_2] 25 (0, 0))) := ⟨h4_⟩
            have n5_ : Aside0 (w42.heap[gb365]? = some (.cells #[.slice A0_0 l0_0.length c0_0, .slice A0_1 l0_1.length c0_1, .int .i64 a0_2] 25 (0, 0))) := ⟨h5_⟩
            have n6_ : Aside0 (Below w.heap.size w w42) := ⟨h6_⟩
            clear HO_362001 BK361 BK365 HB
            clear h0_ h1_ h2_ h3_ h4_ h5_ h6_
            have HO368 := n0_
            have HO374 := n1_
            have HO_362001 := n2_
            have HA_HO374 := n3_
            have BK361 := n4_
            have BK365 := n5_
            have HB := n6_
            clear n0_ n1_ n2_ n3_ n4_ n5_ n6_
            have hHeld : w42.cell? ⟨gb361, 0, none⟩ = some (.slice A0_0 l0_0.length c0_0) ∧ w42.cell? ⟨gb361, 1, none⟩ = some (.slice A0_1 l0_1.length c0_1) ∧ w42.cell? ⟨gb361, 2, none⟩ = some (.int .i64 a0_2) := hS_
            obtain ⟨co43, eo43⟩ := HA_HO374.out
            clear HA_HO374
            subst eo43
            refine norm_ (a' := ?_) ?_ ?_
            rotate_left
            ·
             simp only [putAll, Act.put, List.setIfInBounds_toArray, List.set_cons_zero, List.set_cons_succ]
             rfl
            refine two_ (i := 3) (j := 8) (Ni := some 31) (Nj := some 36) #[tT,tT,tT,tT,tT,tT,tT,tT,fF,tT,tT,tT,fF,fF,fF,fF,fF] #[tT,tT,tT,fF,tT,tT,tT,tT,tT,tT,tT,tT,fF,fF,fF,fF,fF] rfl rfl rfl rfl (two_of HT_.out (by kernel_rfl)) (by decide) (by decide) (fun K hK => ?_) (fun K hK => ?_)
            ·
             refine Kd.N_append_rows_step k39 (w0 := w) w.heap.size (by rfl) (.tmp 28) (.tmp 30) 23 39 (.agg #[(.int .i64 0), (.bool false), (.int .i64 0), (.slice none 0 0), (.slice none 0 0)]) 72 rfl Try.underlying23 info39 rfl (by decide) (by omega) v367 y366 l0_1 _ _ _ (fun k_ => (P0_1_ k_ ∨ w.heap.size ≤ k_) ∧ some k_ ≠ (.slice (some adz_v373) y372.length co43 : Value).ownBlock ∧ k_ ≠ gb361 ∧ k_ ≠ gb365) (fun k_ => ((fun k_ => (P0_1_ k_ ∨ w.heap.size ≤ k_) ∧ some k_ ≠ (.slice (some adz_v373) y372.length co43 : Value).ownBlock ∧ k_ ≠ gb361 ∧ k_ ≠ gb365)) k_ ∧ some k_ ≠ (v367 : Value).ownBlock) rfl rfl ?aO ?aR (fun _ hk => hk) ?aF ?aB ?aS ?aL ?_
             (case aR => exact (by skip; exact Kd.V_F (Kd.V_mono (ok' := (fun k_ => ((fun k_ => (P0_1_ k_ ∨ w.heap.size ≤ k_) ∧ some k_ ≠ (.slice (some adz_v373) y372.length co43 : Value).ownBlock ∧ k_ ≠ gb361 ∧ k_ ≠ gb365)) k_ ∧ some k_ ≠ (v367 : Value).ownBlock)) (HO_362001.out) (fun k_ hk => ⟨⟨hk.1, hk.2.2.1, hk.2.2.2.1, hk.2.2.2.2⟩, hk.2.1⟩))))
             (case aB => exact (by apply_rules (transparency := .reducible) only [HB.out, below_alloc, pw_below_drewN, below_drew1, below_set, GE361.out, GE365.out]))
             (case aF => exact (fun k_ hk => ⟨(.inr (Nat.le_trans (below_size (by apply_rules (transparency := .reducible) only [HB.out, below_alloc, pw_below_drewN, below_drew1, below_set, GE361.out, GE365.out])) hk)), Kd.fresh' (Kd.R_lt HO374.out) k_ hk, Kd.freshB (g := gb361) (o := _) BK361.out k_ hk, Kd.freshB (g := gb365) (o := _) BK365.out k_ hk⟩))
             (case aO => exact HO368.out)
             (case aS => exact (below_size (by apply_rules (transparency := .reducible) only [HB.out, below_alloc, pw_below_drewN, below_drew1, below_set, GE361.out, GE365.out])))
             (case aL => have := LMc21.out; omega)
             intro v370 w44 ho hb hg hat
             rw [← Ny369.out] at ho
             have n0_ := Aside0.mk (Kd.V_afterv (ok := (fun k_ => (P0_1_ k_ ∨ w.heap.size ≤ k_) ∧ some k_ ≠ (.slice (some adz_v373) y372.length co43 : Value).ownBlock ∧ k_ ≠ gb361 ∧ k_ ≠ gb365)) (Kd.V_mono HO_362001.out (fun _ hk => ⟨⟨hk.1, hk.2.2.1, hk.2.2.2.1, hk.2.2.2.2⟩, hk.2.1⟩)) hg hat)
             have n1_ := Aside0.mk (blk_grown (g := gb361) (o := _) BK361.out hg (Kd.N_ne HO368.out BK361.out (by decide)))
             have n2_ := Aside0.mk (blk_grown (g := gb365) (o := _) BK365.out hg (Kd.N_ne HO368.out BK365.out (by decide)))
             have n3_ := Aside0.mk (Kd.R_over' HO374.out (Kd.N_typed HO368.out) (by decide) hg)
             have n4_ := Aside0.mk (hb)
             have n5_ := Aside0.mk (ho)
             clear HO_362001 BK361 BK365 HO374 HB HO368; have HO_362001 := n0_; have BK361 := n1_; have BK365 := n2_; have HO374 := n3_; have HB := n4_; have HO371 := n5_; clear n0_ n1_ n2_ n3_ n4_ n5_
             clear ho hb hg hat
             refine hK.out _ _ ⟨(blk_cell BK361.out 0).trans rfl, (blk_cell BK361.out 1).trans rfl, (blk_cell BK361.out 2).trans rfl⟩ (fun hHeld => ?_)
             clear hK K
             refine norm_ (a' := ?_) ?_ ?_
             rotate_left; (show Act.put _ (some 31) _ = _; simp only [Act.put, List.setIfInBounds_toArray, List.set_cons_zero, List.set_cons_succ, i64_w, i32_w]; rfl)
             exact norm_ (by first | (simp only [putAll, Act.put, List.setIfInBounds_toArray, List.set_cons_zero, List.set_cons_succ]; done) | (simp only [putAll, Act.put, List.setIfInBounds_toArray, List.set_cons_zero, List.set_cons_succ]; rfl)) (hJ0_3_4 (v367, v370, .slice (some adz_v373) y372.length co43, adz_v373) _ ⟨hHeld, HO371.out, HO374.out, (Kd.V_mono HO_362001.out (fun _ hk => ⟨hk.1.1, hk.2, hk.1.2.1, hk.1.2.2.1, hk.1.2.2.2⟩)), ⟨_, rfl⟩, BK361.out, BK365.out, (by apply_rules (transparency := .reducible) only [HB.out, below_alloc, pw_below_drewN, below_drew1, below_set, GE361.out, GE365.out])⟩)
            ·
             (have p375 : 0 ≤ ((ji22) : Int) := of_decide_eq_true (by first | (with_reducible assumption) | assumption); have q375 : (ji22) < (y372.length : Int) := of_decide_eq_true (by first | (with_reducible assumption) | assumption); obtain ⟨ad375, e375, hx375_0⟩ := Kd.at_int (Kd.R_reads' HO374.out).2.2 (ji22) p375 q375; obtain rfl : adz_v373 = ad375 := (by injection e375))
             refine value_ (w1 := ?_) (v := ?_) (by rfl) rfl ?_ ?_
             rotate_left 2
             ·
              go_simp
              constructor
              ·
               rfl
              ·
               rfl
             clear hx375_0
             refine hK.out _ _ ⟨(blk_cell BK361.out 0).trans rfl, (blk_cell BK361.out 1).trans rfl, (blk_cell BK361.out 2).trans rfl⟩ (fun hHeld => ?_)
             clear hK K
             refine norm_ (a' := ?_) ?_ ?_
             rotate_left; (show Act.put _ (some 36) _ = _; simp only [Act.put, List.setIfInBounds_toArray, List.set_cons_zero, List.set_cons_succ, i64_w, i32_w]; rfl)
             refine pure_ (i := 12) (N := some 40) (v := ?_) (a' := ?_) #[tT,tT,tT,fF,tT,tT,tT,tT,tT,tT,tT,tT,tT,fF,fF,fF,fF] rfl rfl (any_of HT_.out (by kernel_rfl)) (fun _ _ _ h => h) (Or.inl ⟨by rfl, ?_⟩) ?_ ?_
             rotate_left; (intro w'; go_simp; with_reducible rfl); rotate_left; (simp only [Act.put, List.setIfInBounds_toArray, List.set_cons_zero, List.set_cons_succ, i64_w, i32_w]; rfl)
             exact norm_ (by first | (simp only [putAll, Act.put, List.setIfInBounds_toArray, List.set_cons_zero, List.set_cons_succ]; done) | (simp only [putAll, Act.put, List.setIfInBounds_toArray, List.set_cons_zero, List.set_cons_succ]; rfl)) (hJ0_4_8 (v367, .slice (some adz_v373) y372.length co43, adz_v373) _ ⟨hHeld, HO368.out, HO374.out, HO_362001.out, ⟨_, rfl⟩, BK361.out, BK365.out, (by apply_rules (transparency := .reducible) only [HB.out, below_alloc, pw_below_drewN, below_drew1, below_set, GE361.out, GE365.out])⟩)
          ·
           rintro ⟨v367, v370⟩ w40 ⟨hS_, h0_, h1_, h2_, h3_, h4_⟩
           have n0_ : Aside0 (Kd.N k39 39 w40 w.heap.size (fun k_ => (P0_1_ k_ ∨ w.heap.size ≤ k_) ∧ k_ ≠ gb361 ∧ k_ ≠ gb365) v370 y369) := ⟨h0_⟩
           have n1_ : Aside0 (Kd.V k39 39 w40 w.heap.size (fun k_ => (P0_1_ k_ ∨ w.heap.size ≤ k_) ∧ some k_ ≠ (v370 : Value).ownBlock ∧ k_ ≠ gb361 ∧ k_ ≠ gb365) (.slice A0_1 l0_1.length c0_1) l0_1) := ⟨h1_⟩
           have n2_ : Aside0 (w40.heap[gb361]? = some (.cells #[.slice A0_0 l0_0.length c0_0, .slice A0_1 l0_1.length c0_1, .int .i64 a0_2] 25 (0, 0))) := ⟨h2_⟩
           have n3_ : Aside0 (w40.heap[gb365]? = some (.cells #[.slice A0_0 l0_0.length c0_0, .slice A0_1 l0_1.length c0_1, .int .i64 a0_2] 25 (0, 0))) := ⟨h3_⟩
           have n4_ : Aside0 (Below w.heap.size w w40) := ⟨h4_⟩
           clear HO_362001 BK361 BK365 HB
           clear h0_ h1_ h2_ h3_ h4_
           have HO371 := n0_
           have HO_362001 := n1_
           have BK361 := n2_
           have BK365 := n3_
           have HB := n4_
           clear n0_ n1_ n2_ n3_ n4_
           have hHeld : w40.cell? ⟨gb361, 0, none⟩ = some (.slice A0_0 l0_0.length c0_0) ∧ w40.cell? ⟨gb361, 1, none⟩ = some (.slice A0_1 l0_1.length c0_1) ∧ w40.cell? ⟨gb361, 2, none⟩ = some (.int .i64 a0_2) := hS_
           refine norm_ (a' := ?_) ?_ ?_
           rotate_left
           ·
            simp only [putAll, Act.put, List.setIfInBounds_toArray, List.set_cons_zero, List.set_cons_succ]
            rfl
           refine one_ (i := 4) (N := some 32) #[tT,tT,tT,tT,tT,tT,tT,fF,fF,tT,tT,tT,fF,fF,fF,fF,fF] rfl rfl (one_of HT_.out (by kernel_rfl)) (by decide) (fun K hK => ?_)
           refine Kd.R_lit_step (Kd.int .i64) _ 3 ?hg (N := 32) ?hd (xs := ([1, 2, 4, 8, 16] : List Int)) (inner := [.int .i64 1, .int .i64 2, .int .i64 4, .int .i64 8, .int .i64 16]) (ok := fun _ => True) (okp := fun _ => True) ?hr ?hp (fun _ hk => hk) trivial (Below.refl _ _) (Nat.le_refl _) (by simp) ?_; (case hd => rfl); (case hg => rfl); (case hr => first | (go_simp; done) | (go_simp; rfl)); (case hp => exact (Reps.one (show Kd.M (Kd.int .i64) _ _ _ 1 [.int .i64 1] from rfl) (Reps.one (show Kd.M (Kd.int .i64) _ _ _ 2 [.int .i64 2] from rfl) (Reps.one (show Kd.M (Kd.int .i64) _ _ _ 4 [.int .i64 4] from rfl) (Reps.one (show Kd.M (Kd.int .i64) _ _ _ 8 [.int .i64 8] from rfl) (Reps.one (show Kd.M (Kd.int .i64) _ _ _ 16 [.int .i64 16] from rfl) (Reps.none _ _)))))))
           intro v373 w41 ho42 hb hg_ hnew_
           clear hg_ hnew_
           (first | rw [← Ny372.out] at ho42 | (simp only [Int.reduceToNat] at ho42; rw [← Ny372.out] at ho42))
           have n0_ := Aside0.mk (Kd.V_elder' HO_362001.out (Kd.R_base ho42) hb)
           have n1_ := Aside0.mk (Kd.N_elder' HO371.out (Kd.R_base ho42) hb)
           have n2_ := Aside0.mk (Kd.R_lower (Kd.R_newM (M := fun k_ => (w.heap.size ≤ k_)) ho42 (below_size (by apply_rules (transparency := .reducible) only [HB.out, below_alloc, pw_below_drewN, below_drew1, below_set, GE361.out, GE365.out])) (fun k_ h_ => h_)) (below_size (by apply_rules (transparency := .reducible) only [HB.out, below_alloc, pw_below_drewN, below_drew1, below_set, GE361.out, GE365.out])))
           have n3_ := Aside0.mk (blk_below (g := gb361) (o := _) BK361.out hb)
           have n4_ := Aside0.mk (blk_below (g := gb365) (o := _) BK365.out hb)
           have n5_ := Aside0.mk (below_step (by apply_rules (transparency := .reducible) only [HB.out, below_alloc, pw_below_drewN, below_drew1, below_set, GE361.out, GE365.out]) hb)
           clear HO_362001 HO371 BK361 BK365 HB; have HO_362001 := n0_; have HO371 := n1_; have HO374 := n2_; have BK361 := n3_; have BK365 := n4_; have HB := n5_; clear n0_ n1_ n2_ n3_ n4_ n5_
           clear hb ho42
           obtain ⟨Ao43, co43, eo43⟩ := Kd.R_slice HO374.out
           subst eo43
           obtain ⟨ado43, fo43, _⟩ := Kd.at_int (Kd.R_reads' HO374.out).2.2 0 (by decide) (by rw [Ny372.out]; simp)
           cases fo43
           refine hK.out _ _ ⟨(blk_cell BK361.out 0).trans rfl, (blk_cell BK361.out 1).trans rfl, (blk_cell BK361.out 2).trans rfl⟩ (fun hHeld => ?_)
           clear hK K
           refine norm_ (a' := ?_) ?_ ?_
           rotate_left; (show Act.put _ (some 32) _ = _; simp only [Act.put, List.setIfInBounds_toArray, List.set_cons_zero, List.set_cons_succ, i64_w, i32_w]; rfl)
           refine pure_ (i := 7) (N := some 35) (v := ?_) (a' := ?_) #[tT,tT,tT,tT,tT,tT,tT,tT,fF,tT,tT,tT,fF,fF,fF,fF,fF] rfl rfl (any_of HT_.out (by kernel_rfl)) (fun _ _ _ h => h) (Or.inl ⟨by rfl, ?_⟩) ?_ ?_
           rotate_left; (intro w'; go_simp; with_reducible rfl); rotate_left; (simp only [Act.put, List.setIfInBounds_toArray, List.set_cons_zero, List.set_cons_succ, i64_w, i32_w]; rfl)
           exact norm_ (by first | (simp only [putAll, Act.put, List.setIfInBounds_toArray, List.set_cons_zero, List.set_cons_succ]; done) | (simp only [putAll, Act.put, List.setIfInBounds_toArray, List.set_cons_zero, List.set_cons_succ]; rfl)) (hJ0_3_4 (v367, v370, .slice (some ado43) y372.length co43, ado43) _ ⟨hHeld, (Kd.N_mono HO371.out (fun _ hk => ⟨hk.1.1, hk.2, hk.1.2.1, hk.1.2.2⟩)), (Kd.R_mono HO374.out (fun _ hk => hk.1)), (Kd.V_mono HO_362001.out (fun _ hk => ⟨hk.1.1, hk.1.2.1, hk.2, hk.1.2.2.1, hk.1.2.2.2⟩)), ⟨_, rfl⟩, BK361.out, BK365.out, (by apply_rules (transparency := .reducible) only [HB.out, below_alloc, pw_below_drewN, below_drew1, below_set, GE361.out, GE365.out])⟩)
         ·
          rintro ⟨v373, adz_v373, v377⟩ w42 ⟨hS_, h0_, h1_, h2_, h3_, h4_, h5_, h6_⟩
          have n0_ : Aside0 (Kd.R (Kd.int .i64) 3 w42 w.heap.size (fun k_ => (w.heap.size ≤ k_)) v373 y372) := ⟨h0_⟩
          have n1_ : Aside0 (Kd.N k39 39 w42 w.heap.size (fun k_ => (P0_1_ k_ ∨ w.heap.size ≤ k_) ∧ some k_ ≠ (v373 : Value).ownBlock ∧ k_ ≠ gb361 ∧ k_ ≠ gb365) v377 y376) := ⟨h1_⟩
          have n2_ : Aside0 (Kd.V k39 39 w42 w.heap.size (fun k_ => (P0_1_ k_ ∨ w.heap.size ≤ k_) ∧ some k_ ≠ (v373 : Value).ownBlock ∧ some k_ ≠ (v377 : Value).ownBlock ∧ k_ ≠ gb361 ∧ k_ ≠ gb365) (.slice A0_1 l0_1.length c0_1) l0_1) := ⟨h2_⟩
          have n3_ : Aside0 (∃ c_, (v373 : Value) = .slice (some adz_v373) y372.length c_) := ⟨h3_⟩
          have n4_ : Aside0 (w42.heap[gb361]? = some (.cells #[.slice A0_0 l0_0.length c0_0, .slice A0_1 l0_1.length c0_1, .int .i64 a0_2] 25 (0, 0))) := ⟨h4_⟩
          have n5_ : Aside0 (w42.heap[gb365]? = some (.cells #[.slice A0_0 l0_0.length c0_0, .slice A0_1 l0_1.length c0_1, .int .i64 a0_2] 25 (0, 0))) := ⟨h5_⟩
          have n6_ : Aside0 (Below w.heap.size w w42) := ⟨h6_⟩
          clear HO_362001 BK361 BK365 HB
          clear h0_ h1_ h2_ h3_ h4_ h5_ h6_
          have HO374 := n0_
          have HO378 := n1_
          have HO_362001 := n2_
          have HA_HO374 := n3_
          have BK361 := n4_
          have BK365 := n5_
          have HB := n6_
          clear n0_ n1_ n2_ n3_ n4_ n5_ n6_
          have hHeld : w42.cell? ⟨gb361, 0, none⟩ = some (.slice A0_0 l0_0.length c0_0) ∧ w42.cell? ⟨gb361, 1, none⟩ = some (.slice A0_1 l0_1.length c0_1) ∧ w42.cell? ⟨gb361, 2, none⟩ = some (.int .i64 a0_2) := hS_
          obtain ⟨co43, eo43⟩ := HA_HO374.out
          clear HA_HO374
          subst eo43
          refine norm_ (a' := ?_) ?_ ?_
          rotate_left
          ·
           simp only [putAll, Act.put, List.setIfInBounds_toArray, List.set_cons_zero, List.set_cons_succ]
           rfl
          refine one_ (i := 0) (N := some 28) #[tT,tT,tT,fF,tT,tT,tT,tT,tT,tT,tT,tT,tT,tT,fF,fF,fF] rfl rfl (one_of HT_.out (by kernel_rfl)) (by decide) (fun K hK => ?_)
          refine Kd.N_lit_step k39 _ 39 ?hg (N' := 28) ?hd (xs := ([] : List (S39))) (inner := []) (ok := (fun k_ => (P0_1_ k_ ∨ w.heap.size ≤ k_) ∧ some k_ ≠ (.slice (some adz_v373) y372.length co43 : Value).ownBlock ∧ some k_ ≠ (v377 : Value).ownBlock ∧ k_ ≠ gb361 ∧ k_ ≠ gb365)) (okp := (fun k_ => (P0_1_ k_ ∨ w.heap.size ≤ k_) ∧ some k_ ≠ (.slice (some adz_v373) y372.length co43 : Value).ownBlock ∧ some k_ ≠ (v377 : Value).ownBlock ∧ k_ ≠ gb361 ∧ k_ ≠ gb365)) ?hr ?hp (fun _ hk => hk) ((show ∀ k_, w42.heap.size ≤ k_ → (fun k_ => (P0_1_ k_ ∨ w.heap.size ≤ k_) ∧ some k_ ≠ (.slice (some adz_v373) y372.length co43 : Value).ownBlock ∧ some k_ ≠ (v377 : Value).ownBlock ∧ k_ ≠ gb361 ∧ k_ ≠ gb365) k_ from fun k_ hk => ⟨(.inr (Nat.le_trans (below_size (by apply_rules (transparency := .reducible) only [HB.out, below_alloc, pw_below_drewN, below_drew1, below_set, GE361.out, GE365.out])) hk)), Kd.fresh' (Kd.R_lt HO374.out) k_ hk, Kd.fresh' (Kd.N_lt HO378.out) k_ hk, Kd.freshB (g := gb361) (o := _) BK361.out k_ hk, Kd.freshB (g := gb365) (o := _) BK365.out k_ hk⟩) _ (Nat.le_refl _)) (Below.refl _ _) (Nat.le_refl _) (by simp) ?_; (case hd => rfl); (case hg => rfl); (case hr => first | (go_simp; done) | (go_simp; rfl)); (case hp => exact (Reps.none _ _))
          intro v367 w44 ho45 hb hg_ hnew_
          clear hg_ hnew_
          (first | rw [← Ny366.out] at ho45 | (simp only [Int.reduceToNat] at ho45; rw [← Ny366.out] at ho45))
          have n0_ := Aside0.mk (Kd.V_elder' HO_362001.out (Kd.N_base ho45) hb)
          have n1_ := Aside0.mk (Kd.R_below HO374.out hb)
          have n2_ := Aside0.mk (Kd.N_elder' HO378.out (Kd.N_base ho45) hb)
          have n3_ := Aside0.mk (Kd.N_lower ho45 (below_size (by apply_rules (transparency := .reducible) only [HB.out, below_alloc, pw_below_drewN, below_drew1, below_set, GE361.out, GE365.out])))
          have n4_ := Aside0.mk (blk_below (g := gb361) (o := _) BK361.out hb)
          have n5_ := Aside0.mk (blk_below (g := gb365) (o := _) BK365.out hb)
          have n6_ := Aside0.mk (below_step (by apply_rules (transparency := .reducible) only [HB.out, below_alloc, pw_below_drewN, below_drew1, below_set, GE361.out, GE365.out]) hb)
          clear HO_362001 HO374 HO378 BK361 BK365 HB; have HO_362001 := n0_; have HO374 := n1_; have HO378 := n2_; have HO368 := n3_; have BK361 := n4_; have BK365 := n5_; have HB := n6_; clear n0_ n1_ n2_ n3_ n4_ n5_ n6_
          clear hb ho45
          refine hK.out _ _ ⟨(blk_cell BK361.out 0).trans rfl, (blk_cell BK361.out 1).trans rfl, (blk_cell BK361.out 2).trans rfl⟩ (fun hHeld => ?_)
          clear hK K
          refine norm_ (a' := ?_) ?_ ?_
          rotate_left; (show Act.put _ (some 28) _ = _; simp only [Act.put, List.setIfInBounds_toArray, List.set_cons_zero, List.set_cons_succ, i64_w, i32_w]; rfl)
          exact norm_ (by first | (simp only [putAll, Act.put, List.setIfInBounds_toArray, List.set_cons_zero, List.set_cons_succ]; done) | (simp only [putAll, Act.put, List.setIfInBounds_toArray, List.set_cons_zero, List.set_cons_succ]; rfl)) (hJ0_4_8_13 (v367, .slice (some adz_v373) y372.length co43, adz_v373, v377) _ ⟨hHeld, HO368.out, HO374.out, (Kd.N_mono HO378.out (fun _ hk => ⟨hk.1.1, hk.2, hk.1.2.1, hk.1.2.2.1, hk.1.2.2.2⟩)), (Kd.V_mono HO_362001.out (fun _ hk => ⟨hk.1.1, hk.2, hk.1.2.1, hk.1.2.2.1, hk.1.2.2.2.1, hk.1.2.2.2.2⟩)), ⟨_, rfl⟩, BK361.out, BK365.out, (by apply_rules (transparency := .reducible) only [HB.out, below_alloc, pw_below_drewN, below_drew1, below_set, GE361.out, GE365.out])⟩)
        ·
         rintro ⟨v367, v373, adz_v373⟩ w42 ⟨hS_, h0_, h1_, h2_, h3_, h4_, h5_, h6_⟩
         have n0_ : Aside0 (Kd.N k39 39 w42 w.heap.size (fun k_ => (P0_1_ k_ ∨ w.heap.size ≤ k_) ∧ some k_ ≠ (v373 : Value).ownBlock ∧ k_ ≠ gb361 ∧ k_ ≠ gb365) v367 y366) := ⟨h0_⟩
         have n1_ : Aside0 (Kd.R (Kd.int .i64) 3 w42 w.heap.size (fun k_ => (w.heap.size ≤ k_)) v373 y372) := ⟨h1_⟩
         have n2_ : Aside0 (Kd.V k39 39 w42 w.heap.size (fun k_ => (P0_1_ k_ ∨ w.heap.size ≤ k_) ∧ some k_ ≠ (v367 : Value).ownBlock ∧ some k_ ≠ (v373 : Value).ownBlock ∧ k_ ≠ gb361 ∧ k_ ≠ gb365) (.slice A0_1 l0_1.length c0_1) l0_1) := ⟨h2_⟩
         have n3_ : Aside0 (∃ c_, (v373 : Value) = .slice (some adz_v373) y372.length c_) := ⟨h3_⟩
         have n4_ : Aside0 (w42.heap[gb361]? = some (.cells #[.slice A0_0 l0_0.length c0_0, .slice A0_1 l0_1.length c0_1, .int .i64 a0_2] 25 (0, 0))) := ⟨h4_⟩
         have n5_ : Aside0 (w42.heap[gb365]? = some (.cells #[.slice A0_0 l0_0.length c0_0, .slice A0_1 l0_1.length c0_1, .int .i64 a0_2] 25 (0, 0))) := ⟨h5_⟩
         have n6_ : Aside0 (Below w.heap.size w w42) := ⟨h6_⟩
         clear HO_362001 BK361 BK365 HB
         clear h0_ h1_ h2_ h3_ h4_ h5_ h6_
         have HO368 := n0_
         have HO374 := n1_
         have HO_362001 := n2_
         have HA_HO374 := n3_
         have BK361 := n4_
         have BK365 := n5_
         have HB := n6_
         clear n0_ n1_ n2_ n3_ n4_ n5_ n6_
         have hHeld : w42.cell? ⟨gb361, 0, none⟩ = some (.slice A0_0 l0_0.length c0_0) ∧ w42.cell? ⟨gb361, 1, none⟩ = some (.slice A0_1 l0_1.length c0_1) ∧ w42.cell? ⟨gb361, 2, none⟩ = some (.int .i64 a0_2) := hS_
         obtain ⟨co43, eo43⟩ := HA_HO374.out
         clear HA_HO374
         subst eo43
         refine norm_ (a' := ?_) ?_ ?_
         rotate_left
         ·
          simp only [putAll, Act.put, List.setIfInBounds_toArray, List.set_cons_zero, List.set_cons_succ]
          rfl
         refine two_ (i := 3) (j := 13) (Ni := some 31) (Nj := some 41) #[tT,tT,tT,tT,tT,tT,tT,tT,tT,tT,tT,tT,tT,fF,fF,fF,fF] #[tT,tT,tT,fF,tT,tT,tT,tT,tT,tT,tT,tT,tT,tT,fF,fF,fF] rfl rfl rfl rfl (two_of HT_.out (by kernel_rfl)) (by decide) (by decide) (fun K hK => ?_) (fun K hK => ?_)
         ·
          refine Kd.N_append_rows_step k39 (w0 := w) w.heap.size (by rfl) (.tmp 28) (.tmp 30) 23 39 (.agg #[(.int .i64 0), (.bool false), (.int .i64 0), (.slice none 0 0), (.slice none 0 0)]) 72 rfl Try.underlying23 info39 rfl (by decide) (by omega) v367 y366 l0_1 _ _ _ (fun k_ => (P0_1_ k_ ∨ w.heap.size ≤ k_) ∧ some k_ ≠ (.slice (some adz_v373) y372.length co43 : Value).ownBlock ∧ k_ ≠ gb361 ∧ k_ ≠ gb365) (fun k_ => ((fun k_ => (P0_1_ k_ ∨ w.heap.size ≤ k_) ∧ some k_ ≠ (.slice (some adz_v373) y372.length co43 : Value).ownBlock ∧ k_ ≠ gb361 ∧ k_ ≠ gb365)) k_ ∧ some k_ ≠ (v367 : Value).ownBlock) rfl rfl ?aO ?aR (fun _ hk => hk) ?aF ?aB ?aS ?aL ?_
          (case aR => exact (by skip; exact Kd.V_F (Kd.V_mono (ok' := (fun k_ => ((fun k_ => (P0_1_ k_ ∨ w.heap.size ≤ k_) ∧ some k_ ≠ (.slice (some adz_v373) y372.length co43 : Value).ownBlock ∧ k_ ≠ gb361 ∧ k_ ≠ gb365)) k_ ∧ some k_ ≠ (v367 : Value).ownBlock)) (HO_362001.out) (fun k_ hk => ⟨⟨hk.1, hk.2.2.1, hk.2.2.2.1, hk.2.2.2.2⟩, hk.2.1⟩))))
          (case aB => exact (by apply_rules (transparency := .reducible) only [HB.out, below_alloc, pw_below_drewN, below_drew1, below_set, GE361.out, GE365.out]))
          (case aF => exact (fun k_ hk => ⟨(.inr (Nat.le_trans (below_size (by apply_rules (transparency := .reducible) only [HB.out, below_alloc, pw_below_drewN, below_drew1, below_set, GE361.out, GE365.out])) hk)), Kd.fresh' (Kd.R_lt HO374.out) k_ hk, Kd.freshB (g := gb361) (o := _) BK361.out k_ hk, Kd.freshB (g := gb365) (o := _) BK365.out k_ hk⟩))
          (case aO => exact HO368.out)
          (case aS => exact (below_size (by apply_rules (transparency := .reducible) only [HB.out, below_alloc, pw_below_drewN, below_drew1, below_set, GE361.out, GE365.out])))
          (case aL => have := LMc21.out; omega)
          intro v370 w44 ho hb hg hat
          rw [← Ny369.out] at ho
          have n0_ := Aside0.mk (Kd.V_afterv (ok := (fun k_ => (P0_1_ k_ ∨ w.heap.size ≤ k_) ∧ some k_ ≠ (.slice (some adz_v373) y372.length co43 : Value).ownBlock ∧ k_ ≠ gb361 ∧ k_ ≠ gb365)) (Kd.V_mono HO_362001.out (fun _ hk => ⟨⟨hk.1, hk.2.2.1, hk.2.2.2.1, hk.2.2.2.2⟩, hk.2.1⟩)) hg hat)
          have n1_ := Aside0.mk (blk_grown (g := gb361) (o := _) BK361.out hg (Kd.N_ne HO368.out BK361.out (by decide)))
          have n2_ := Aside0.mk (blk_grown (g := gb365) (o := _) BK365.out hg (Kd.N_ne HO368.out BK365.out (by decide)))
          have n3_ := Aside0.mk (Kd.R_over' HO374.out (Kd.N_typed HO368.out) (by decide) hg)
          have n4_ := Aside0.mk (hb)
          have n5_ := Aside0.mk (ho)
          clear HO_362001 BK361 BK365 HO374 HB HO368; have HO_362001 := n0_; have BK361 := n1_; have BK365 := n2_; have HO374 := n3_; have HB := n4_; have HO371 := n5_; clear n0_ n1_ n2_ n3_ n4_ n5_
          clear ho hb hg hat
          refine hK.out _ _ ⟨(blk_cell BK361.out 0).trans rfl, (blk_cell BK361.out 1).trans rfl, (blk_cell BK361.out 2).trans rfl⟩ (fun hHeld => ?_)
          clear hK K
          refine norm_ (a' := ?_) ?_ ?_
          rotate_left; (show Act.put _ (some 31) _ = _; simp only [Act.put, List.setIfInBounds_toArray, List.set_cons_zero, List.set_cons_succ, i64_w, i32_w]; rfl)
          exact norm_ (by first | (simp only [putAll, Act.put, List.setIfInBounds_toArray, List.set_cons_zero, List.set_cons_succ]; done) | (simp only [putAll, Act.put, List.setIfInBounds_toArray, List.set_cons_zero, List.set_cons_succ]; rfl)) (hJ0_3_4_8 (v367, v370, .slice (some adz_v373) y372.length co43, adz_v373) _ ⟨hHeld, HO371.out, HO374.out, (Kd.V_mono HO_362001.out (fun _ hk => ⟨hk.1.1, hk.2, hk.1.2.1, hk.1.2.2.1, hk.1.2.2.2⟩)), ⟨_, rfl⟩, BK361.out, BK365.out, (by apply_rules (transparency := .reducible) only [HB.out, below_alloc, pw_below_drewN, below_drew1, below_set, GE361.out, GE365.out])⟩)
         ·
          refine Kd.N_lit_step k39 _ 39 ?hg (N' := 41) ?hd (xs := ([(⟨rd y372 (ji22), false, wrap64 (1 + (wrap64 (a1))), ([] : List Int), ([] : List (S71))⟩ : S39)] : List (S39))) (inner := [.int .i64 (rd y372 (ji22)), .bool false, .int .i64 (wrap64 (1 + (wrap64 (a1)))), .slice none 0 0, .slice none 0 0]) (ok := (fun k_ => (P0_1_ k_ ∨ w.heap.size ≤ k_) ∧ some k_ ≠ (v367 : Value).ownBlock ∧ some k_ ≠ (.slice (some adz_v373) y372.length co43 : Value).ownBlock ∧ k_ ≠ gb361 ∧ k_ ≠ gb365)) (okp := (fun k_ => (P0_1_ k_ ∨ w.heap.size ≤ k_) ∧ some k_ ≠ (v367 : Value).ownBlock ∧ some k_ ≠ (.slice (some adz_v373) y372.length co43 : Value).ownBlock ∧ k_ ≠ gb361 ∧ k_ ≠ gb365)) ?hr ?hp (fun _ hk => hk) ((show ∀ k_, w42.heap.size ≤ k_ → (fun k_ => (P0_1_ k_ ∨ w.heap.size ≤ k_) ∧ some k_ ≠ (v367 : Value).ownBlock ∧ some k_ ≠ (.slice (some adz_v373) y372.length co43 : Value).ownBlock ∧ k_ ≠ gb361 ∧ k_ ≠ gb365) k_ from fun k_ hk => ⟨(.inr (Nat.le_trans (below_size (by apply_rules (transparency := .reducible) only [HB.out, below_alloc, pw_below_drewN, below_drew1, below_set, GE361.out, GE365.out])) hk)), Kd.fresh' (Kd.N_lt HO368.out) k_ hk, Kd.fresh' (Kd.R_lt HO374.out) k_ hk, Kd.freshB (g := gb361) (o := _) BK361.out k_ hk, Kd.freshB (g := gb365) (o := _) BK365.out k_ hk⟩) _ (Nat.le_refl _)) (Below.refl _ _) (Nat.le_refl _) (by simp) ?_; (case hd => rfl); (case hg => rfl); (case hr => first | (go_simp; done) | (go_simp; rfl)); (case hp => exact (Reps.c5 (show Kd.FK k39 _ _ (⟨rd y372 (ji22), false, wrap64 (1 + (wrap64 (a1))), ([] : List Int), ([] : List (S71))⟩ : S39) [.int .i64 (rd y372 (ji22)), .bool false, .int .i64 (wrap64 (1 + (wrap64 (a1)))), .slice none 0 0, .slice none 0 0] from (k39_mkF _ _ (⟨rd y372 (ji22), false, wrap64 (1 + (wrap64 (a1))), ([] : List Int), ([] : List (S71))⟩ : S39) (Nat.le_refl _) (Kd.F_nil _ _ _) (Nat.le_refl _) (Kd.F_nil _ _ _))) (Reps.none _ _)))
          intro v377 w44 ho45 hb hg_ hnew_
          clear hg_ hnew_
          (first | rw [← Ny376.out] at ho45 | (simp only [Int.reduceToNat] at ho45; rw [← Ny376.out] at ho45))
          have n0_ := Aside0.mk (Kd.V_elder' HO_362001.out (Kd.N_base ho45) hb)
          have n1_ := Aside0.mk (Kd.N_elder' HO368.out (Kd.N_base ho45) hb)
          have n2_ := Aside0.mk (Kd.R_below HO374.out hb)
          have n3_ := Aside0.mk (Kd.N_lower ho45 (below_size (by apply_rules (transparency := .reducible) only [HB.out, below_alloc, pw_below_drewN, below_drew1, below_set, GE361.out, GE365.out])))
          have n4_ := Aside0.mk (blk_below (g := gb361) (o := _) BK361.out hb)
          have n5_ := Aside0.mk (blk_below (g := gb365) (o := _) BK365.out hb)
          have n6_ := Aside0.mk (below_step (by apply_rules (transparency := .reducible) only [HB.out, below_alloc, pw_below_drewN, below_drew1, below_set, GE361.out, GE365.out]) hb)
          clear HO_362001 HO368 HO374 BK361 BK365 HB; have HO_362001 := n0_; have HO368 := n1_; have HO374 := n2_; have HO378 := n3_; have BK361 := n4_; have BK365 := n5_; have HB := n6_; clear n0_ n1_ n2_ n3_ n4_ n5_ n6_
          clear hb ho45
          refine hK.out _ _ ⟨(blk_cell BK361.out 0).trans rfl, (blk_cell BK361.out 1).trans rfl, (blk_cell BK361.out 2).trans rfl⟩ (fun hHeld => ?_)
          clear hK K
          refine norm_ (a' := ?_) ?_ ?_
          rotate_left; (show Act.put _ (some 41) _ = _; simp only [Act.put, List.setIfInBounds_toArray, List.set_cons_zero, List.set_cons_succ, i64_w, i32_w]; rfl)
          exact norm_ (by first | (simp only [putAll, Act.put, List.setIfInBounds_toArray, List.set_cons_zero, List.set_cons_succ]; done) | (simp only [putAll, Act.put, List.setIfInBounds_toArray, List.set_cons_zero, List.set_cons_succ]; rfl)) (hJ0_4_8_13 (v367, .slice (some adz_v373) y372.length co43, adz_v373, v377) _ ⟨hHeld, (Kd.N_mono HO368.out (fun _ hk => ⟨hk.1.1, hk.1.2.1, hk.2, hk.1.2.2.1, hk.1.2.2.2⟩)), HO374.out, HO378.out, (Kd.V_mono HO_362001.out (fun _ hk => ⟨hk.1.1, hk.1.2.1, hk.1.2.2.1, hk.2, hk.1.2.2.2.1, hk.1.2.2.2.2⟩)), ⟨_, rfl⟩, BK361.out, BK365.out, (by apply_rules (transparency := .reducible) only [HB.out, below_alloc, pw_below_drewN, below_drew1, below_set, GE361.out, GE365.out])⟩)
       ·
        rintro ⟨v367, v370, v373, adz_v373⟩ w43 ⟨hS_, h0_, h1_, h2_, h3_, h4_, h5_, h6_⟩
        have n0_ : Aside0 (Kd.N k39 39 w43 w.heap.size (fun k_ => (P0_1_ k_ ∨ w.heap.size ≤ k_) ∧ some k_ ≠ (v373 : Value).ownBlock ∧ k_ ≠ gb361 ∧ k_ ≠ gb365) v370 y369) := ⟨h0_⟩
        have n1_ : Aside0 (Kd.R (Kd.int .i64) 3 w43 w.heap.size (fun k_ => (w.heap.size ≤ k_)) v373 y372) := ⟨h1_⟩
        have n2_ : Aside0 (Kd.V k39 39 w43 w.heap.size (fun k_ => (P0_1_ k_ ∨ w.heap.size ≤ k_) ∧ some k_ ≠ (v370 : Value).ownBlock ∧ some k_ ≠ (v373 : Value).ownBlock ∧ k_ ≠ gb361 ∧ k_ ≠ gb365) (.slice A0_1 l0_1.length c0_1) l0_1) := ⟨h2_⟩
        have n3_ : Aside0 (∃ c_, (v373 : Value) = .slice (some adz_v373) y372.length c_) := ⟨h3_⟩
        have n4_ : Aside0 (w43.heap[gb361]? = some (.cells #[.slice A0_0 l0_0.length c0_0, .slice A0_1 l0_1.length c0_1, .int .i64 a0_2] 25 (0, 0))) := ⟨h4_⟩
        have n5_ : Aside0 (w43.heap[gb365]? = some (.cells #[.slice A0_0 l0_0.length c0_0, .slice A0_1 l0_1.length c0_1, .int .i64 a0_2] 25 (0, 0))) := ⟨h5_⟩
        have n6_ : Aside0 (Below w.heap.size w w43) := ⟨h6_⟩
        clear HO_362001 BK361 BK365 HB
        clear h0_ h1_ h2_ h3_ h4_ h5_ h6_
        have HO371 := n0_
        have HO374 := n1_
        have HO_362001 := n2_
        have HA_HO374 := n3_
        have BK361 := n4_
        have BK365 := n5_
        have HB := n6_
        clear n0_ n1_ n2_ n3_ n4_ n5_ n6_
        have hHeld : w43.cell? ⟨gb361, 0, none⟩ = some (.slice A0_0 l0_0.length c0_0) ∧ w43.cell? ⟨gb361, 1, none⟩ = some (.slice A0_1 l0_1.length c0_1) ∧ w43.cell? ⟨gb361, 2, none⟩ = some (.int .i64 a0_2) := hS_
        obtain ⟨co44, eo44⟩ := HA_HO374.out
        clear HA_HO374
        subst eo44
        refine norm_ (a' := ?_) ?_ ?_
        rotate_left
        ·
         simp only [putAll, Act.put, List.setIfInBounds_toArray, List.set_cons_zero, List.set_cons_succ]
         rfl
        refine one_ (i := 8) (N := some 36) #[tT,tT,tT,tT,tT,tT,tT,tT,tT,tT,tT,tT,fF,fF,fF,fF,fF] rfl rfl (one_of HT_.out (by kernel_rfl)) (by decide) (fun K hK => ?_)
        (have p375 : 0 ≤ ((ji22) : Int) := of_decide_eq_true (by first | (with_reducible assumption) | assumption); have q375 : (ji22) < (y372.length : Int) := of_decide_eq_true (by first | (with_reducible assumption) | assumption); obtain ⟨ad375, e375, hx375_0⟩ := Kd.at_int (Kd.R_reads' HO374.out).2.2 (ji22) p375 q375; obtain rfl : adz_v373 = ad375 := (by injection e375))
        refine value_ (w1 := ?_) (v := ?_) (by rfl) rfl ?_ ?_
        rotate_left 2
        ·
         go_simp
         constructor
         ·
          rfl
         ·
          rfl
        clear hx375_0
        refine hK.out _ _ ⟨(blk_cell BK361.out 0).trans rfl, (blk_cell BK361.out 1).trans rfl, (blk_cell BK361.out 2).trans rfl⟩ (fun hHeld => ?_)
        clear hK K
        refine norm_ (a' := ?_) ?_ ?_
        rotate_left; (show Act.put _ (some 36) _ = _; simp only [Act.put, List.setIfInBounds_toArray, List.set_cons_zero, List.set_cons_succ, i64_w, i32_w]; rfl)
        refine pure_ (i := 12) (N := some 40) (v := ?_) (a' := ?_) #[tT,tT,tT,tT,tT,tT,tT,tT,tT,tT,tT,tT,tT,fF,fF,fF,fF] rfl rfl (any_of HT_.out (by kernel_rfl)) (fun _ _ _ h => h) (Or.inl ⟨by rfl, ?_⟩) ?_ ?_
        rotate_left; (intro w'; go_simp; with_reducible rfl); rotate_left; (simp only [Act.put, List.setIfInBounds_toArray, List.set_cons_zero, List.set_cons_succ, i64_w, i32_w]; rfl)
        exact norm_ (by first | (simp only [putAll, Act.put, List.setIfInBounds_toArray, List.set_cons_zero, List.set_cons_succ]; done) | (simp only [putAll, Act.put, List.setIfInBounds_toArray, List.set_cons_zero, List.set_cons_succ]; rfl)) (hJ0_3_4_8 (v367, v370, .slice (some adz_v373) y372.length co44, adz_v373) _ ⟨hHeld, HO371.out, HO374.out, HO_362001.out, ⟨_, rfl⟩, BK361.out, BK365.out, (by apply_rules (transparency := .reducible) only [HB.out, below_alloc, pw_below_drewN, below_drew1, below_set, GE361.out, GE365.out])⟩)
      ·
       rintro ⟨v367, v373, adz_v373, v377⟩ w44 ⟨hS_, h0_, h1_, h2_, h3_, h4_, h5_, h6_, h7_⟩
       have n0_ : Aside0 (Kd.N k39 39 w44 w.heap.size (fun k_ => (P0_1_ k_ ∨ w.heap.size ≤ k_) ∧ some k_ ≠ (v373 : Value).ownBlock ∧ some k_ ≠ (v377 : Value).ownBlock ∧ k_ ≠ gb361 ∧ k_ ≠ gb365) v367 y366) := ⟨h0_⟩
       have n1_ : Aside0 (Kd.R (Kd.int .i64) 3 w44 w.heap.size (fun k_ => (w.heap.size ≤ k_)) v373 y372) := ⟨h1_⟩
       have n2_ : Aside0 (Kd.N k39 39 w44 w.heap.size (fun k_ => (P0_1_ k_ ∨ w.heap.size ≤ k_) ∧ some k_ ≠ (v367 : Value).ownBlock ∧ some k_ ≠ (v373 : Value).ownBlock ∧ k_ ≠ gb361 ∧ k_ ≠ gb365) v377 y376) := ⟨h2_⟩
       have n3_ : Aside0 (Kd.V k39 39 w44 w.heap.size (fun k_ => (P0_1_ k_ ∨ w.heap.size ≤ k_) ∧ some k_ ≠ (v367 : Value).ownBlock ∧ some k_ ≠ (v373 : Value).ownBlock ∧ some k_ ≠ (v377 : Value).ownBlock ∧ k_ ≠ gb361 ∧ k_ ≠ gb365) (.slice A0_1 l0_1.length c0_1) l0_1) := ⟨h3_⟩
       have n4_ : Aside0 (∃ c_, (v373 : Value) = .slice (some adz_v373) y372.length c_) := ⟨h4_⟩
       have n5_ : Aside0 (w44.heap[gb361]? = some (.cells #[.slice A0_0 l0_0.length c0_0, .slice A0_1 l0_1.length c0_1, .int .i64 a0_2] 25 (0, 0))) := ⟨h5_⟩
       have n6_ : Aside0 (w44.heap[gb365]? = some (.cells #[.slice A0_0 l0_0.length c0_0, .slice A0_1 l0_1.length c0_1, .int .i64 a0_2] 25 (0, 0))) := ⟨h6_⟩
       have n7_ : Aside0 (Below w.heap.size w w44) := ⟨h7_⟩
       clear HO_362001 BK361 BK365 HB
       clear h0_ h1_ h2_ h3_ h4_ h5_ h6_ h7_
       have HO368 := n0_
       have HO374 := n1_
       have HO378 := n2_
       have HO_362001 := n3_
       have HA_HO374 := n4_
       have BK361 := n5_
       have BK365 := n6_
       have HB := n7_
       clear n0_ n1_ n2_ n3_ n4_ n5_ n6_ n7_
       have hHeld : w44.cell? ⟨gb361, 0, none⟩ = some (.slice A0_0 l0_0.length c0_0) ∧ w44.cell? ⟨gb361, 1, none⟩ = some (.slice A0_1 l0_1.length c0_1) ∧ w44.cell? ⟨gb361, 2, none⟩ = some (.int .i64 a0_2) := hS_
       obtain ⟨co45, eo45⟩ := HA_HO374.out
       clear HA_HO374
       subst eo45
       refine norm_ (a' := ?_) ?_ ?_
       rotate_left
       ·
        simp only [putAll, Act.put, List.setIfInBounds_toArray, List.set_cons_zero, List.set_cons_succ]
        rfl
       refine one_ (i := 3) (N := some 31) #[tT,tT,tT,tT,tT,tT,tT,tT,tT,tT,tT,tT,tT,tT,fF,fF,fF] rfl rfl (one_of HT_.out (by kernel_rfl)) (by decide) (fun K hK => ?_)
       refine Kd.N_append_rows_step k39 (w0 := w) w.heap.size (by rfl) (.tmp 28) (.tmp 30) 23 39 (.agg #[(.int .i64 0), (.bool false), (.int .i64 0), (.slice none 0 0), (.slice none 0 0)]) 72 rfl Try.underlying23 info39 rfl (by decide) (by omega) v367 y366 l0_1 _ _ _ (fun k_ => (P0_1_ k_ ∨ w.heap.size ≤ k_) ∧ some k_ ≠ (.slice (some adz_v373) y372.length co45 : Value).ownBlock ∧ some k_ ≠ (v377 : Value).ownBlock ∧ k_ ≠ gb361 ∧ k_ ≠ gb365) (fun k_ => ((fun k_ => (P0_1_ k_ ∨ w.heap.size ≤ k_) ∧ some k_ ≠ (.slice (some adz_v373) y372.length co45 : Value).ownBlock ∧ some k_ ≠ (v377 : Value).ownBlock ∧ k_ ≠ gb361 ∧ k_ ≠ gb365)) k_ ∧ some k_ ≠ (v367 : Value).ownBlock) rfl rfl ?aO ?aR (fun _ hk => hk) ?aF ?aB ?aS ?aL ?_
       (case aR => exact (by skip; exact Kd.V_F (Kd.V_mono (ok' := (fun k_ => ((fun k_ => (P0_1_ k_ ∨ w.heap.size ≤ k_) ∧ some k_ ≠ (.slice (some adz_v373) y372.length co45 : Value).ownBlock ∧ some k_ ≠ (v377 : Value).ownBlock ∧ k_ ≠ gb361 ∧ k_ ≠ gb365)) k_ ∧ some k_ ≠ (v367 : Value).ownBlock)) (HO_362001.out) (fun k_ hk => ⟨⟨hk.1, hk.2.2.1, hk.2.2.2.1, hk.2.2.2.2.1, hk.2.2.2.2.2⟩, hk.2.1⟩))))
       (case aB => exact (by apply_rules (transparency := .reducible) only [HB.out, below_alloc, pw_below_drewN, below_drew1, below_set, GE361.out, GE365.out]))
       (case aF => exact (fun k_ hk => ⟨(.inr (Nat.le_trans (below_size (by apply_rules (transparency := .reducible) only [HB.out, below_alloc, pw_below_drewN, below_drew1, below_set, GE361.out, GE365.out])) hk)), Kd.fresh' (Kd.R_lt HO374.out) k_ hk, Kd.fresh' (Kd.N_lt HO378.out) k_ hk, Kd.freshB (g := gb361) (o := _) BK361.out k_ hk, Kd.freshB (g := gb365) (o := _) BK365.out k_ hk⟩))
       (case aO => exact HO368.out)
       (case aS => exact (below_size (by apply_rules (transparency := .reducible) only [HB.out, below_alloc, pw_below_drewN, below_drew1, below_set, GE361.out, GE365.out])))
       (case aL => have := LMc21.out; omega)
       intro v370 w46 ho hb hg hat
       rw [← Ny369.out] at ho
       have n0_ := Aside0.mk (Kd.V_afterv (ok := (fun k_ => (P0_1_ k_ ∨ w.heap.size ≤ k_) ∧ some k_ ≠ (.slice (some adz_v373) y372.length co45 : Value).ownBlock ∧ some k_ ≠ (v377 : Value).ownBlock ∧ k_ ≠ gb361 ∧ k_ ≠ gb365)) (Kd.V_mono HO_362001.out (fun _ hk => ⟨⟨hk.1, hk.2.2.1, hk.2.2.2.1, hk.2.2.2.2.1, hk.2.2.2.2.2⟩, hk.2.1⟩)) hg hat)
       have n1_ := Aside0.mk (blk_grown (g := gb361) (o := _) BK361.out hg (Kd.N_ne HO368.out BK361.out (by decide)))
       have n2_ := Aside0.mk (blk_grown (g := gb365) (o := _) BK365.out hg (Kd.N_ne HO368.out BK365.out (by decide)))
       have n3_ := Aside0.mk (Kd.R_over' HO374.out (Kd.N_typed HO368.out) (by decide) hg)
       have n4_ := Aside0.mk (Kd.N_afterv (ok := (fun k_ => (P0_1_ k_ ∨ w.heap.size ≤ k_) ∧ some k_ ≠ (.slice (some adz_v373) y372.length co45 : Value).ownBlock ∧ k_ ≠ gb361 ∧ k_ ≠ gb365)) (Kd.N_mono HO378.out (fun _ hk => ⟨⟨hk.1, hk.2.2.1, hk.2.2.2.1, hk.2.2.2.2⟩, hk.2.1⟩)) hg hat)
       have n5_ := Aside0.mk (hb)
       have n6_ := Aside0.mk (ho)
       clear HO_362001 BK361 BK365 HO374 HO378 HB HO368; have HO_362001 := n0_; have BK361 := n1_; have BK365 := n2_; have HO374 := n3_; have HO378 := n4_; have HB := n5_; have HO371 := n6_; clear n0_ n1_ n2_ n3_ n4_ n5_ n6_
       clear ho hb hg hat
       refine hK.out _ _ ⟨(blk_cell BK361.out 0).trans rfl, (blk_cell BK361.out 1).trans rfl, (blk_cell BK361.out 2).trans rfl⟩ (fun hHeld => ?_)
       clear hK K
       refine norm_ (a' := ?_) ?_ ?_
       rotate_left; (show Act.put _ (some 31) _ = _; simp only [Act.put, List.setIfInBounds_toArray, List.set_cons_zero, List.set_cons_succ, i64_w, i32_w]; rfl)
       exact norm_ (by first | (simp only [putAll, Act.put, List.setIfInBounds_toArray, List.set_cons_zero, List.set_cons_succ]; done) | (simp only [putAll, Act.put, List.setIfInBounds_toArray, List.set_cons_zero, List.set_cons_succ]; rfl)) (hJ0_3_4_8_13 (v367, v370, .slice (some adz_v373) y372.length co45, adz_v373, v377) _ ⟨hHeld, HO371.out, HO374.out, (Kd.N_mono HO378.out (fun _ hk => ⟨hk.1.1, hk.2, hk.1.2.1, hk.1.2.2.1, hk.1.2.2.2⟩)), (Kd.V_mono HO_362001.out (fun _ hk => ⟨hk.1.1, hk.2, hk.1.2.1, hk.1.2.2.1, hk.1.2.2.2.1, hk.1.2.2.2.2⟩)), ⟨_, rfl⟩, BK361.out, BK365.out, (by apply_rules (transparency := .reducible) only [HB.out, below_alloc, pw_below_drewN, below_drew1, below_set, GE361.out, GE365.out])⟩)
     ·
      rintro ⟨v367, v370, v373, adz_v373⟩ w43 ⟨hS_, h0_, h1_, h2_, h3_, h4_, h5_, h6_⟩
      have n0_ : Aside0 (Kd.N k39 39 w43 w.heap.size (fun k_ => (P0_1_ k_ ∨ w.heap.size ≤ k_) ∧ some k_ ≠ (v373 : Value).ownBlock ∧ k_ ≠ gb361 ∧ k_ ≠ gb365) v370 y369) := ⟨h0_⟩
      have n1_ : Aside0 (Kd.R (Kd.int .i64) 3 w43 w.heap.size (fun k_ => (w.heap.size ≤ k_)) v373 y372) := ⟨h1_⟩
      have n2_ : Aside0 (Kd.V k39 39 w43 w.heap.size (fun k_ => (P0_1_ k_ ∨ w.heap.size ≤ k_) ∧ some k_ ≠ (v370 : Value).ownBlock ∧ some k_ ≠ (v373 : Value).ownBlock ∧ k_ ≠ gb361 ∧ k_ ≠ gb365) (.slice A0_1 l0_1.length c0_1) l0_1) := ⟨h2_⟩
      have n3_ : Aside0 (∃ c_, (v373 : Value) = .slice (some adz_v373) y372.length c_) := ⟨h3_⟩
      have n4_ : Aside0 (w43.heap[gb361]? = some (.cells #[.slice A0_0 l0_0.length c0_0, .slice A0_1 l0_1.length c0_1, .int .i64 a0_2] 25 (0, 0))) := ⟨h4_⟩
      have n5_ : Aside0 (w43.heap[gb365]? = some (.cells #[.slice A0_0 l0_0.length c0_0, .slice A0_1 l0_1.length c0_1, .int .i64 a0_2] 25 (0, 0))) := ⟨h5_⟩
      have n6_ : Aside0 (Below w.heap.size w w43) := ⟨h6_⟩
      clear HO_362001 BK361 BK365 HB
      clear h0_ h1_ h2_ h3_ h4_ h5_ h6_
      have HO371 := n0_
      have HO374 := n1_
      have HO_362001 := n2_
      have HA_HO374 := n3_
      have BK361 := n4_
      have BK365 := n5_
      have HB := n6_
      clear n0_ n1_ n2_ n3_ n4_ n5_ n6_
      have hHeld : w43.cell? ⟨gb361, 0, none⟩ = some (.slice A0_0 l0_0.length c0_0) ∧ w43.cell? ⟨gb361, 1, none⟩ = some (.slice A0_1 l0_1.length c0_1) ∧ w43.cell? ⟨gb361, 2, none⟩ = some (.int .i64 a0_2) := hS_
      obtain ⟨co44, eo44⟩ := HA_HO374.out
      clear HA_HO374
      subst eo44
      refine norm_ (a' := ?_) ?_ ?_
      rotate_left
      ·
       simp only [putAll, Act.put, List.setIfInBounds_toArray, List.set_cons_zero, List.set_cons_succ]
       rfl
      refine one_ (i := 13) (N := some 41) #[tT,tT,tT,tT,tT,tT,tT,tT,tT,tT,tT,tT,tT,tT,fF,fF,fF] rfl rfl (one_of HT_.out (by kernel_rfl)) (by decide) (fun K hK => ?_)
      refine Kd.N_lit_step k39 _ 39 ?hg (N' := 41) ?hd (xs := ([(⟨rd y372 (ji22), false, wrap64 (1 + (wrap64 (a1))), ([] : List Int), ([] : List (S71))⟩ : S39)] : List (S39))) (inner := [.int .i64 (rd y372 (ji22)), .bool false, .int .i64 (wrap64 (1 + (wrap64 (a1)))), .slice none 0 0, .slice none 0 0]) (ok := (fun k_ => (P0_1_ k_ ∨ w.heap.size ≤ k_) ∧ some k_ ≠ (v370 : Value).ownBlock ∧ some k_ ≠ (.slice (some adz_v373) y372.length co44 : Value).ownBlock ∧ k_ ≠ gb361 ∧ k_ ≠ gb365)) (okp := (fun k_ => (P0_1_ k_ ∨ w.heap.size ≤ k_) ∧ some k_ ≠ (v370 : Value).ownBlock ∧ some k_ ≠ (.slice (some adz_v373) y372.length co44 : Value).ownBlock ∧ k_ ≠ gb361 ∧ k_ ≠ gb365)) ?hr ?hp (fun _ hk => hk) ((show ∀ k_, w43.heap.size ≤ k_ → (fun k_ => (P0_1_ k_ ∨ w.heap.size ≤ k_) ∧ some k_ ≠ (v370 : Value).ownBlock ∧ some k_ ≠ (.slice (some adz_v373) y372.length co44 : Value).ownBlock ∧ k_ ≠ gb361 ∧ k_ ≠ gb365) k_ from fun k_ hk => ⟨(.inr (Nat.le_trans (below_size (by apply_rules (transparency := .reducible) only [HB.out, below_alloc, pw_below_drewN, below_drew1, below_set, GE361.out, GE365.out])) hk)), Kd.fresh' (Kd.N_lt HO371.out) k_ hk, Kd.fresh' (Kd.R_lt HO374.out) k_ hk, Kd.freshB (g := gb361) (o := _) BK361.out k_ hk, Kd.freshB (g := gb365) (o := _) BK365.out k_ hk⟩) _ (Nat.le_refl _)) (Below.refl _ _) (Nat.le_refl _) (by simp) ?_; (case hd => rfl); (case hg => rfl); (case hr => first | (go_simp; done) | (go_simp; rfl)); (case hp => exact (Reps.c5 (show Kd.FK k39 _ _ (⟨rd y372 (ji22), false, wrap64 (1 + (wrap64 (a1))), ([] : List Int), ([] : List (S71))⟩ : S39) [.int .i64 (rd y372 (ji22)), .bool false, .int .i64 (wrap64 (1 + (wrap64 (a1)))), .slice none 0 0, .slice none 0 0] from (k39_mkF _ _ (⟨rd y372 (ji22), false, wrap64 (1 + (wrap64 (a1))), ([] : List Int), ([] : List (S71))⟩ : S39) (Nat.le_refl _) (Kd.F_nil _ _ _) (Nat.le_refl _) (Kd.F_nil _ _ _))) (Reps.none _ _)))
      intro v377 w45 ho46 hb hg_ hnew_
      clear hg_ hnew_
      (first | rw [← Ny376.out] at ho46 | (simp only [Int.reduceToNat] at ho46; rw [← Ny376.out] at ho46))
      have n0_ := Aside0.mk (Kd.V_elder' HO_362001.out (Kd.N_base ho46) hb)
      have n1_ := Aside0.mk (Kd.N_elder' HO371.out (Kd.N_base ho46) hb)
      have n2_ := Aside0.mk (Kd.R_below HO374.out hb)
      have n3_ := Aside0.mk (Kd.N_lower ho46 (below_size (by apply_rules (transparency := .reducible) only [HB.out, below_alloc, pw_below_drewN, below_drew1, below_set, GE361.out, GE365.out])))
      have n4_ := Aside0.mk (blk_below (g := gb361) (o := _) BK361.out hb)
      have n5_ := Aside0.mk (blk_below (g := gb365) (o := _) BK365.out hb)
      have n6_ := Aside0.mk (below_step (by apply_rules (transparency := .reducible) only [HB.out, below_alloc, pw_below_drewN, below_drew1, below_set, GE361.out, GE365.out]) hb)
      clear HO_362001 HO371 HO374 BK361 BK365 HB; have HO_362001 := n0_; have HO371 := n1_; have HO374 := n2_; have HO378 := n3_; have BK361 := n4_; have BK365 := n5_; have HB := n6_; clear n0_ n1_ n2_ n3_ n4_ n5_ n6_
      clear hb ho46
      refine hK.out _ _ ⟨(blk_cell BK361.out 0).trans rfl, (blk_cell BK361.out 1).trans rfl, (blk_cell BK361.out 2).trans rfl⟩ (fun hHeld => ?_)
      clear hK K
      refine norm_ (a' := ?_) ?_ ?_
      rotate_left; (show Act.put _ (some 41) _ = _; simp only [Act.put, List.setIfInBounds_toArray, List.set_cons_zero, List.set_cons_succ, i64_w, i32_w]; rfl)
      exact norm_ (by first | (simp only [putAll, Act.put, List.setIfInBounds_toArray, List.set_cons_zero, List.set_cons_succ]; done) | (simp only [putAll, Act.put, List.setIfInBounds_toArray, List.set_cons_zero, List.set_cons_succ]; rfl)) (hJ0_3_4_8_13 (v367, v370, .slice (some adz_v373) y372.length co44, adz_v373, v377) _ ⟨hHeld, (Kd.N_mono HO371.out (fun _ hk => ⟨hk.1.1, hk.1.2.1, hk.2, hk.1.2.2.1, hk.1.2.2.2⟩)), HO374.out, HO378.out, (Kd.V_mono HO_362001.out (fun _ hk => ⟨hk.1.1, hk.1.2.1, hk.1.2.2.1, hk.2, hk.1.2.2.2.1, hk.1.2.2.2.2⟩)), ⟨_, rfl⟩, BK361.out, BK365.out, (by apply_rules (transparency := .reducible) only [HB.out, below_alloc, pw_below_drewN, below_drew1, below_set, GE361.out, GE365.out])⟩)
    rintro ⟨v367, v370, v373, adz_v373, v377⟩ w45 ⟨hS_, h0_, h1_, h2_, h3_, h4_, h5_, h6_, h7_⟩
    have n0_ : Aside0 (Kd.N k39 39 w45 w.heap.size (fun k_ => (P0_1_ k_ ∨ w.heap.size ≤ k_) ∧ some k_ ≠ (v373 : Value).ownBlock ∧ some k_ ≠ (v377 : Value).ownBlock ∧ k_ ≠ gb361 ∧ k_ ≠ gb365) v370 y369) := ⟨h0_⟩
    have n1_ : Aside0 (Kd.R (Kd.int .i64) 3 w45 w.heap.size (fun k_ => (w.heap.size ≤ k_)) v373 y372) := ⟨h1_⟩
    have n2_ : Aside0 (Kd.N k39 39 w45 w.heap.size (fun k_ => (P0_1_ k_ ∨ w.heap.size ≤ k_) ∧ some k_ ≠ (v370 : Value).ownBlock ∧ some k_ ≠ (v373 : Value).ownBlock ∧ k_ ≠ gb361 ∧ k_ ≠ gb365) v377 y376) := ⟨h2_⟩
    have n3_ : Aside0 (Kd.V k39 39 w45 w.heap.size (fun k_ => (P0_1_ k_ ∨ w.heap.size ≤ k_) ∧ some k_ ≠ (v370 : Value).ownBlock ∧ some k_ ≠ (v373 : Value).ownBlock ∧ some k_ ≠ (v377 : Value).ownBlock ∧ k_ ≠ gb361 ∧ k_ ≠ gb365) (.slice A0_1 l0_1.length c0_1) l0_1) := ⟨h3_⟩
    have n4_ : Aside0 (∃ c_, (v373 : Value) = .slice (some adz_v373) y372.length c_) := ⟨h4_⟩
    have n5_ : Aside0 (w45.heap[gb361]? = some (.cells #[.slice A0_0 l0_0.length c0_0, .slice A0_1 l0_1.length c0_1, .int .i64 a0_2] 25 (0, 0))) := ⟨h5_⟩
    have n6_ : Aside0 (w45.heap[gb365]? = some (.cells #[.slice A0_0 l0_0.length c0_0, .slice A0_1 l0_1.length c0_1, .int .i64 a0_2] 25 (0, 0))) := ⟨h6_⟩
    have n7_ : Aside0 (Below w.heap.size w w45) := ⟨h7_⟩
    clear HO_362001 BK361 BK365 HB
    clear h0_ h1_ h2_ h3_ h4_ h5_ h6_ h7_
    have HO371 := n0_
    have HO374 := n1_
    have HO378 := n2_
    have HO_362001 := n3_
    have HA_HO374 := n4_
    have BK361 := n5_
    have BK365 := n6_
    have HB := n7_
    clear n0_ n1_ n2_ n3_ n4_ n5_ n6_ n7_
    have hHeld : w45.cell? ⟨gb361, 0, none⟩ = some (.slice A0_0 l0_0.length c0_0) ∧ w45.cell? ⟨gb361, 1, none⟩ = some (.slice A0_1 l0_1.length c0_1) ∧ w45.cell? ⟨gb361, 2, none⟩ = some (.int .i64 a0_2) := hS_
    obtain ⟨co46, eo46⟩ := HA_HO374.out
    clear HA_HO374
    subst eo46
    obtain ⟨Ao48, co48, eo48⟩ := Kd.N_slice HO378.out
    (first | subst eo48 | (injection eo48 with f1_ f2_ f3_; have f4_ := f1_.symm; have f5_ := f3_.symm; clear f1_ f2_ f3_; subst f4_; subst f5_))
    refine norm_ (a' := ?_) ?_ ?_
    rotate_left
    ·
     simp only [putAll, Act.put, List.setIfInBounds_toArray, List.set_cons_zero, List.set_cons_succ]
     rfl
    refine one_ (i := 14) (N := some 42) #[tT,tT,tT,tT,tT,tT,tT,tT,tT,tT,tT,tT,tT,tT,tT,fF,fF] rfl rfl (one_of HT_.out (by kernel_rfl)) (by decide) (fun K hK => ?_)
    refine Kd.N_append_rows_step k39 (w0 := w) w.heap.size (by rfl) (.tmp 31) (.tmp 41) 23 39 (.agg #[(.int .i64 0), (.bool false), (.int .i64 0), (.slice none 0 0), (.slice none 0 0)]) 72 rfl Try.underlying23 info39 rfl (by decide) (by omega) v370 y369 y376 _ _ _ (fun k_ => (P0_1_ k_ ∨ w.heap.size ≤ k_) ∧ some k_ ≠ (.slice (some adz_v373) y372.length co46 : Value).ownBlock ∧ k_ ≠ gb361 ∧ k_ ≠ gb365) (fun k_ => ((fun k_ => (P0_1_ k_ ∨ w.heap.size ≤ k_) ∧ some k_ ≠ (.slice (some adz_v373) y372.length co46 : Value).ownBlock ∧ k_ ≠ gb361 ∧ k_ ≠ gb365)) k_ ∧ some k_ ≠ (v370 : Value).ownBlock) rfl rfl ?aO ?aR (fun _ hk => hk) ?aF ?aB ?aS ?aL ?_
    (case aR => exact (by skip; exact Kd.N_F (Kd.N_mono (ok' := (fun k_ => ((fun k_ => (P0_1_ k_ ∨ w.heap.size ≤ k_) ∧ some k_ ≠ (.slice (some adz_v373) y372.length co46 : Value).ownBlock ∧ k_ ≠ gb361 ∧ k_ ≠ gb365)) k_ ∧ some k_ ≠ (v370 : Value).ownBlock)) (HO378.out) (fun k_ hk => ⟨⟨hk.1, hk.2.2.1, hk.2.2.2.1, hk.2.2.2.2⟩, hk.2.1⟩))))
    (case aB => exact (by apply_rules (transparency := .reducible) only [HB.out, below_alloc, pw_below_drewN, below_drew1, below_set, GE361.out, GE365.out]))
    (case aF => exact (fun k_ hk => ⟨(.inr (Nat.le_trans (below_size (by apply_rules (transparency := .reducible) only [HB.out, below_alloc, pw_below_drewN, below_drew1, below_set, GE361.out, GE365.out])) hk)), Kd.fresh' (Kd.R_lt HO374.out) k_ hk, Kd.freshB (g := gb361) (o := _) BK361.out k_ hk, Kd.freshB (g := gb365) (o := _) BK365.out k_ hk⟩))
    (case aO => exact (Kd.N_mono HO371.out (fun _ hk => ⟨hk.1, hk.2.1, hk.2.2.2.1, hk.2.2.2.2⟩)))
    (case aS => exact (below_size (by apply_rules (transparency := .reducible) only [HB.out, below_alloc, pw_below_drewN, below_drew1, below_set, GE361.out, GE365.out])))
    (case aL => have := LMc25.out; omega)
    intro v380 w47 ho hb hg hat
    rw [← Ny379.out] at ho
    have n0_ := Aside0.mk (Kd.V_afterv (ok := (fun k_ => (P0_1_ k_ ∨ w.heap.size ≤ k_) ∧ some k_ ≠ (.slice (some adz_v373) y372.length co46 : Value).ownBlock ∧ some k_ ≠ (.slice Ao48 y376.length co48 : Value).ownBlock ∧ k_ ≠ gb361 ∧ k_ ≠ gb365)) (Kd.V_mono HO_362001.out (fun _ hk => ⟨⟨hk.1, hk.2.2.1, hk.2.2.2.1, hk.2.2.2.2.1, hk.2.2.2.2.2⟩, hk.2.1⟩)) hg hat)
    have n1_ := Aside0.mk (blk_grown (g := gb361) (o := _) BK361.out hg (Kd.N_ne HO371.out BK361.out (by decide)))
    have n2_ := Aside0.mk (blk_grown (g := gb365) (o := _) BK365.out hg (Kd.N_ne HO371.out BK365.out (by decide)))
    have n3_ := Aside0.mk (Kd.R_over' HO374.out (Kd.N_typed HO371.out) (by decide) hg)
    have n4_ := Aside0.mk (Kd.N_afterv (ok := (fun k_ => (P0_1_ k_ ∨ w.heap.size ≤ k_) ∧ some k_ ≠ (.slice (some adz_v373) y372.length co46 : Value).ownBlock ∧ k_ ≠ gb361 ∧ k_ ≠ gb365)) (Kd.N_mono HO378.out (fun _ hk => ⟨⟨hk.1, hk.2.2.1, hk.2.2.2.1, hk.2.2.2.2⟩, hk.2.1⟩)) hg hat)
    have n5_ := Aside0.mk (hb)
    have n6_ := Aside0.mk (ho)
    clear HO_362001 BK361 BK365 HO374 HO378 HB HO371; have HO_362001 := n0_; have BK361 := n1_; have BK365 := n2_; have HO374 := n3_; have HO378 := n4_; have HB := n5_; have HO381 := n6_; clear n0_ n1_ n2_ n3_ n4_ n5_ n6_
    clear ho hb hg hat
    obtain ⟨Ao49, co49, eo49⟩ := Kd.N_slice HO381.out
    (first | subst eo49 | (injection eo49 with f1_ f2_ f3_; have f4_ := f1_.symm; have f5_ := f3_.symm; clear f1_ f2_ f3_; subst f4_; subst f5_))
    refine hK.out _ _ ⟨(blk_cell BK361.out 0).trans rfl, (blk_cell BK361.out 1).trans rfl, (blk_cell BK361.out 2).trans rfl⟩ (fun hHeld => ?_)
    clear hK K
    refine norm_ (a' := ?_) ?_ ?_
    rotate_left; (show Act.put _ (some 42) _ = _; simp only [Act.put, List.setIfInBounds_toArray, List.set_cons_zero, List.set_cons_succ, i64_w, i32_w]; rfl)
    refine pure_ (i := 15) (N := some 43) (v := ?_) (a' := ?_) #[tT,tT,tT,tT,tT,tT,tT,tT,tT,tT,tT,tT,tT,tT,tT,tT,fF] rfl rfl (any_of HT_.out (by kernel_rfl)) (fun _ _ _ h => h) (Or.inl ⟨by rfl, ?_⟩) ?_ ?_
    rotate_left; (intro w'; go_simp; with_reducible rfl); rotate_left; (simp only [Act.put, List.setIfInBounds_toArray, List.set_cons_zero, List.set_cons_succ, i64_w, i32_w]; rfl)
    refine one_ (i := 16) (N := none) #[tT,tT,tT,tT,tT,tT,tT,tT,tT,tT,tT,tT,tT,tT,tT,tT,tT] rfl rfl (one_of HT_.out (by kernel_rfl)) (by decide) (fun K hK => ?_)
    have hs50 : w47.cell? ⟨gb365, 1, none⟩ = some (.slice A0_1 l0_1.length c0_1) := (blk_cell BK365.out 1).trans rfl
    have hfs50 := blk_frozen BK365.out 1
    have hns50_0 := NB361_365.out
    have hms50_0 := NB365_361.out
    refine skip_ (w1 := ?_) (by rfl) rfl ?_ ?_
    rotate_left
    ·
     go_simp
     rfl
    refine hK.out _ _ ⟨((cell_far (p := ⟨gb365, _, none⟩) NB361_365.out _).trans (hHeld.1)), ((cell_far (p := ⟨gb365, _, none⟩) NB361_365.out _).trans (hHeld.2.1)), ((cell_far (p := ⟨gb365, _, none⟩) NB361_365.out _).trans (hHeld.2.2))⟩ (fun hHeld => ?_)
    clear hK K
    refine done_ (done_of HT_.out (by kernel_rfl)) ?_
    try go_wp2
    have n0_ : Aside0 (Kd.V k39 39 (w47.setCell ⟨gb365, 1, none⟩ (.slice Ao49 y379.length co49)) w.heap.size (fun k_ => (P0_1_ k_ ∨ w.heap.size ≤ k_) ∧ some k_ ≠ (.slice (some adz_v373) y372.length co46 : Value).ownBlock ∧ some k_ ≠ (.slice Ao48 y376.length co48 : Value).ownBlock ∧ some k_ ≠ (.slice Ao49 y379.length co49 : Value).ownBlock ∧ k_ ≠ gb361 ∧ k_ ≠ gb365) (.slice A0_1 l0_1.length c0_1) l0_1) := ⟨by (with_reducible repeat (first | apply Kd.V_alloc | apply Kd.V_drewN | apply Kd.V_drew)); exact Kd.V_mono (Kd.V_far (p := ⟨gb365, 1, none⟩) (Kd.V_mono HO_362001.out (fun k_ hk => (⟨hk, hk.1.2.2.2.2⟩ : _ ∧ k_ ≠ gb365))) (fun _ hk => hk.2) (.slice Ao49 y379.length co49)) (fun _ hk => ⟨hk.1.1.1, hk.1.1.2.1, hk.1.1.2.2.1, hk.1.2, hk.1.1.2.2.2.1, hk.1.1.2.2.2.2⟩)⟩
    have n1_ : Aside0 (Kd.R (Kd.int .i64) 3 (w47.setCell ⟨gb365, 1, none⟩ (.slice Ao49 y379.length co49)) w.heap.size (fun k_ => (w.heap.size ≤ k_)) (.slice (some adz_v373) y372.length co46) y372) := ⟨by (with_reducible repeat (first | apply Kd.R_alloc | apply Kd.R_drewN | apply Kd.R_drew)); exact Kd.R_mono (Kd.R_far (p := ⟨gb365, 1, none⟩) (Kd.R_types HO374.out BK365.out (by decide)) (fun _ hk => hk.2) (.slice Ao49 y379.length co49)) (fun _ hk => hk.1)⟩
    have n2_ : Aside0 (Kd.N k39 39 (w47.setCell ⟨gb365, 1, none⟩ (.slice Ao49 y379.length co49)) w.heap.size (fun k_ => (P0_1_ k_ ∨ w.heap.size ≤ k_) ∧ some k_ ≠ (.slice (some adz_v373) y372.length co46 : Value).ownBlock ∧ some k_ ≠ (.slice Ao49 y379.length co49 : Value).ownBlock ∧ k_ ≠ gb361 ∧ k_ ≠ gb365) (.slice Ao48 y376.length co48) y376) := ⟨by (with_reducible repeat (first | apply Kd.N_alloc | apply Kd.N_drewN | apply Kd.N_drew)); exact Kd.N_mono (Kd.N_far (p := ⟨gb365, 1, none⟩) (Kd.N_mono HO378.out (fun k_ hk => (⟨hk, hk.1.2.2.2⟩ : _ ∧ k_ ≠ gb365))) (fun _ hk => hk.2) (.slice Ao49 y379.length co49)) (fun _ hk => ⟨hk.1.1.1, hk.1.1.2.1, hk.1.2, hk.1.1.2.2.1, hk.1.1.2.2.2⟩)⟩
    have n3_ : Aside0 (Kd.N k39 39 (w47.setCell ⟨gb365, 1, none⟩ (.slice Ao49 y379.length co49)) w.heap.size (fun k_ => (P0_1_ k_ ∨ w.heap.size ≤ k_) ∧ some k_ ≠ (.slice (some adz_v373) y372.length co46 : Value).ownBlock ∧ k_ ≠ gb361 ∧ k_ ≠ gb365) (.slice Ao49 y379.length co49) y379) := ⟨by (with_reducible repeat (first | apply Kd.N_alloc | apply Kd.N_drewN | apply Kd.N_drew)); exact Kd.N_mono (Kd.N_far (p := ⟨gb365, 1, none⟩) (Kd.N_mono HO381.out (fun k_ hk => (⟨hk, hk.2.2.2⟩ : _ ∧ k_ ≠ gb365))) (fun _ hk => hk.2) (.slice Ao49 y379.length co49)) (fun _ hk => ⟨hk.1.1, hk.1.2.1, hk.1.2.2.1, hk.1.2.2.2⟩)⟩
    have n4_ : Aside0 ((w47.setCell ⟨gb365, 1, none⟩ (.slice Ao49 y379.length co49)).heap[gb361]? = some (.cells #[.slice A0_0 l0_0.length c0_0, .slice A0_1 l0_1.length c0_1, .int .i64 a0_2] 25 (0, 0))) := ⟨by apply_rules (transparency := .reducible) only [blk_drewN, blk_drew, blk_alloc, blk_far, NB361_365.out, BK361.out]⟩
    have n5_ : Aside0 ((w47.setCell ⟨gb365, 1, none⟩ (.slice Ao49 y379.length co49)).heap[gb365]? = some (.cells #[.slice A0_0 l0_0.length c0_0, .slice Ao49 y379.length co49, .int .i64 a0_2] 25 (0, 0))) := ⟨by (try apply_rules (transparency := .reducible) only [blk_drewN, blk_drew, blk_alloc]); refine blk_put (cs := #[.slice A0_0 l0_0.length c0_0, .slice A0_1 l0_1.length c0_1, .int .i64 a0_2]) ?_ 1 _ rfl; (try apply_rules (transparency := .reducible) only [blk_drewN, blk_drew, blk_alloc]); exact BK365.out⟩
    have n6_ : Aside0 (Below w.heap.size w (w47.setCell ⟨gb365, 1, none⟩ (.slice Ao49 y379.length co49))) := ⟨by apply_rules (transparency := .reducible) only [HB.out, below_alloc, pw_below_drewN, below_drew1, below_set, GE361.out, GE365.out]⟩
    (try clear HO_362001)
    (try clear HO374)
    (try clear HO378)
    (try clear HO381)
    (try clear BK361)
    (try clear BK365)
    (try clear HB)
    generalize (w47.setCell ⟨gb365, 1, none⟩ (.slice Ao49 y379.length co49)) = w51 at n0_ n1_ n2_ n3_ n4_ n5_ n6_ ⊢
    have HO_362001 := n0_
    have HO374 := n1_
    have HO378 := n2_
    have HO381 := n3_
    have BK361 := n4_
    have BK365 := n5_
    have HB := n6_
    clear n0_ n1_ n2_ n3_ n4_ n5_ n6_
    have n0_ := Aside0.mk (Kd.V_drew HO_362001.out)
    have n1_ := Aside0.mk (Kd.N_drew HO381.out)
    have n2_ := Aside0.mk (blk_drew BK361.out)
    have n3_ := Aside0.mk (blk_drew BK365.out)
    have n4_ := Aside0.mk (below_drew1 HB.out)
    clear HO_362001 HO381 BK361 BK365 HB; have HO_362001 := n0_; have HO381 := n1_; have BK361 := n2_; have BK365 := n3_; have HB := n4_; clear n0_ n1_ n2_ n3_ n4_
    refine start_ (n := 10) (S := fun w' => w'.cell? ⟨gb361, 0, none⟩ = some (.slice A0_0 l0_0.length c0_0) ∧ w'.cell? ⟨gb361, 1, none⟩ = some (.slice A0_1 l0_1.length c0_1) ∧ w'.cell? ⟨gb361, 2, none⟩ = some (.int .i64 a0_2)) (ds := []) #[fF,fF,fF,fF,fF,fF,fF,fF,fF,fF] (by kernel_rfl) rfl rfl ⟨(blk_cell BK361.out 0).trans rfl, (blk_cell BK361.out 1).trans rfl, (blk_cell BK361.out 2).trans rfl⟩ (fun hHeld => ?_); refine with_tabW splicelaw12_PlaceMore.tab5 splicelaw12_PlaceMore.bits5 (fun HT_ HW_ => ?_)
    generalize w51.drew = w52 at HO_362001 HO381 BK361 BK365 HB HO374 HO378 hHeld ⊢
    refine take_ (i := 0) (N := some 45) (v := ?_) (a' := ?_) #[tT,fF,fF,fF,fF,fF,fF,fF,fF,fF] rfl rfl (take_ofW HT_.out HW_.out (by kernel_rfl)) (fun _ _ _ h => h) (Or.inl ⟨by rfl, ?_⟩) hHeld ?_ ?_
    rotate_left; (rintro w' ⟨s0, s1, s2⟩; go_simp; with_reducible rfl); rotate_left; (simp only [Act.put, List.setIfInBounds_toArray, List.set_cons_zero, List.set_cons_succ, i64_w, i32_w]; rfl)
    refine take_ (i := 1) (N := some 46) (v := ?_) (a' := ?_) #[tT,tT,fF,fF,fF,fF,fF,fF,fF,fF] rfl rfl (take_ofW HT_.out HW_.out (by kernel_rfl)) (fun _ _ _ h => h) (Or.inl ⟨by rfl, ?_⟩) hHeld ?_ ?_
    rotate_left; (rintro w' ⟨s0, s1, s2⟩; go_simp; with_reducible rfl); rotate_left; (simp only [Act.put, List.setIfInBounds_toArray, List.set_cons_zero, List.set_cons_succ, i64_w, i32_w]; rfl)
    refine join_ (σ := Value × Value × Value × Nat) 2 #[tT,tT,tT,tT,tT,tT,tT,tT,fF,fF] (fun s_ => [(47, s_.1), (48, .tuple #[.agg #[s_.2.1, s_.2.2.1, .int .i64 t391, .int .i64 t392, .int .i64 t393], .int .i64 t394]), (8, .pointer (some ⟨s_.2.2.2, 0, none⟩)), (44, .tuple #[.agg #[s_.2.1, s_.2.2.1, .int .i64 t391, .int .i64 t392, .int .i64 t393], .int .i64 t394]), (49, .agg #[s_.2.1, s_.2.2.1, .int .i64 t391, .int .i64 t392, .int .i64 t393]), (50, .int .i64 t394)]) (fun s_ w' => (w'.cell? ⟨gb361, 0, none⟩ = some (.slice A0_0 l0_0.length c0_0) ∧ w'.cell? ⟨gb361, 1, none⟩ = some (.slice A0_1 l0_1.length c0_1) ∧ w'.cell? ⟨gb361, 2, none⟩ = some (.int .i64 a0_2)) ∧ (Kd.N k39 39 w' w.heap.size (fun k_ => (P0_1_ k_ ∨ w.heap.size ≤ k_) ∧ some k_ ≠ (s_.1 : Value).ownBlock ∧ some k_ ≠ (s_.2.1 : Value).ownBlock ∧ some k_ ≠ (s_.2.2.1 : Value).ownBlock ∧ k_ ≠ gb361 ∧ k_ ≠ gb365 ∧ k_ ≠ s_.2.2.2) (.slice Ao49 y379.length co49) y379) ∧ (Kd.R (Kd.int .i64) 3 w' w.heap.size (fun k_ => (w.heap.size ≤ k_) ∧ some k_ ≠ (s_.2.1 : Value).ownBlock ∧ some k_ ≠ (s_.2.2.1 : Value).ownBlock) s_.1 t382) ∧ (Kd.R (Kd.int .i64) 3 w' w.heap.size (fun k_ => (w.heap.size ≤ k_) ∧ some k_ ≠ (s_.1 : Value).ownBlock ∧ some k_ ≠ (s_.2.2.1 : Value).ownBlock) s_.2.1 t385) ∧ (Kd.R (Kd.int .i64) 3 w' w.heap.size (fun k_ => (w.heap.size ≤ k_) ∧ some k_ ≠ (s_.1 : Value).ownBlock ∧ some k_ ≠ (s_.2.1 : Value).ownBlock) s_.2.2.1 t388) ∧ (Kd.V k39 39 w' w.heap.size (fun k_ => (P0_1_ k_ ∨ w.heap.size ≤ k_) ∧ some k_ ≠ (.slice Ao49 y379.length co49 : Value).ownBlock ∧ some k_ ≠ (s_.1 : Value).ownBlock ∧ some k_ ≠ (s_.2.1 : Value).ownBlock ∧ some k_ ≠ (s_.2.2.1 : Value).ownBlock ∧ k_ ≠ gb361 ∧ k_ ≠ gb365 ∧ k_ ≠ s_.2.2.2) (.slice A0_1 l0_1.length c0_1) l0_1) ∧ (w'.heap[gb361]? = some (.cells #[.slice A0_0 l0_0.length c0_0, .slice A0_1 l0_1.length c0_1, .int .i64 a0_2] 25 (0, 0))) ∧ (w'.heap[gb365]? = some (.cells #[.slice A0_0 l0_0.length c0_0, .slice Ao49 y379.length co49, .int .i64 a0_2] 25 (0, 0))) ∧ (w'.heap[s_.2.2.2]? = some (.cells #[.slice none 0 0, .slice none 0 0, .int .i64 0, .int .i64 0, .int .i64 0] 30 (0, 0))) ∧ (w.heap.size ≤ s_.2.2.2) ∧ (w.heap.size ≤ s_.2.2.2) ∧ (gb361 ≠ s_.2.2.2) ∧ (s_.2.2.2 ≠ gb361) ∧ (gb365 ≠ s_.2.2.2) ∧ (s_.2.2.2 ≠ gb365) ∧ (Below w.heap.size w w')) ?_ ?_
    rotate_left
    ·
     intro hCont
     refine two_ (i := 2) (j := 7) (Ni := some 47) (Nj := some 8) #[tT,tT,tT,fF,fF,fF,fF,fF,fF,fF] #[tT,tT,fF,fF,fF,fF,fF,tT,fF,fF] rfl rfl rfl rfl (two_of HT_.out (by kernel_rfl)) (by decide) (by decide) (fun K hK => ?_) (fun K hK => ?_)
     ·
      refine goes_ Try.func13 (by kernel_rfl) rfl #[.agg #[.slice A0_0 l0_0.length c0_0, .slice A0_1 l0_1.length c0_1, .int .i64 a0_2]] (by rfl) rfl rfl (by (try simp only [List.map_toArray, List.map_cons, List.map_nil]); first | done | rfl | (simp only [List.length_drop, List.length_take]; rfl)) ?_
      with_reducible refine (place_All.calls kj3 _ _ l0_0 _ _ l0_1 a0_2 t382 _ ?side1 ?side2 ?side3 ?side4 A26.out).mono ?_
      (case side1 => repeat (first | exact (Kd.C_below HR0_0.out HB.out) | (with_reducible refine Kd.C_alloc ?_ _) | (with_reducible refine Kd.C_drewN ?_ _) | (with_reducible refine Kd.C_drew ?_)))
      (case side2 => exact HC0_0.out)
      (case side3 => repeat (first | exact (Kd.V_reads' HO_362001.out).2.2 | (with_reducible refine Kd.C_alloc ?_ _) | (with_reducible refine Kd.C_drewN ?_ _) | (with_reducible refine Kd.C_drew ?_)))
      (case side4 => exact (Kd.V_reads' HO_362001.out).2.1)
      rintro e w53 ⟨v383, rfl, ho0, hb⟩
      refine ⟨_, rfl, ?_⟩
      have n0_ := Aside0.mk (Kd.V_elder' HO_362001.out (Kd.R_base ho0) hb)
      have n1_ := Aside0.mk (Kd.N_elder' HO381.out (Kd.R_base ho0) hb)
      have n2_ := Aside0.mk (Kd.R_lower (Kd.R_newM (M := fun k_ => (w.heap.size ≤ k_)) ho0 (below_size (by apply_rules (transparency := .reducible) only [HB.out, below_alloc, pw_below_drewN, below_drew1, below_set, GE361.out, GE365.out])) (fun k_ h_ => h_)) (below_size (by apply_rules (transparency := .reducible) only [HB.out, below_alloc, pw_below_drewN, below_drew1, below_set, GE361.out, GE365.out])))
      have n3_ := Aside0.mk (blk_below (g := gb361) (o := _) BK361.out hb)
      have n4_ := Aside0.mk (blk_below (g := gb365) (o := _) BK365.out hb)
      have n5_ := Aside0.mk (below_step (by apply_rules (transparency := .reducible) only [HB.out, below_alloc, pw_below_drewN, below_drew1, below_set, GE361.out, GE365.out]) hb)
      clear HO_362001 HO381 BK361 BK365 HB; have HO_362001 := n0_; have HO381 := n1_; have HO384 := n2_; have BK361 := n3_; have BK365 := n4_; have HB := n5_; clear n0_ n1_ n2_ n3_ n4_ n5_
      (try clear hb)
      (try clear hb2)
      (try clear hk)
      (try clear hi)
      (try clear ho0)
      obtain ⟨Ao54, co54, eo54⟩ := Kd.R_slice HO384.out
      (first | subst eo54 | (injection eo54 with f1_ f2_ f3_; have f4_ := f1_.symm; have f5_ := f3_.symm; clear f1_ f2_ f3_; subst f4_; subst f5_))
      refine hK.out _ _ ⟨(blk_cell BK361.out 0).trans rfl, (blk_cell BK361.out 1).trans rfl, (blk_cell BK361.out 2).trans rfl⟩ (fun hHeld => ?_)
      clear hK K
      refine norm_ (a' := ?_) ?_ ?_
      rotate_left; (show Act.put _ (some 47) _ = _; simp only [Act.put, List.setIfInBounds_toArray, List.set_cons_zero, List.set_cons_succ, i64_w, i32_w]; rfl)
      refine two_ (i := 3) (j := 7) (Ni := some 48) (Nj := some 8) #[tT,tT,tT,tT,fF,fF,fF,fF,fF,fF] #[tT,tT,tT,fF,fF,fF,fF,tT,fF,fF] rfl rfl rfl rfl (two_of HT_.out (by kernel_rfl)) (by decide) (by decide) (fun K hK => ?_) (fun K hK => ?_)
      ·
       refine goes_ Try.func10 (by kernel_rfl) rfl #[.agg #[.slice A0_0 l0_0.length c0_0, .slice A0_1 l0_1.length c0_1, .int .i64 a0_2], .slice Ao54 t382.length co54] (by rfl) rfl rfl (by (try simp only [List.map_toArray, List.map_cons, List.map_nil]); first | done | rfl | (simp only [List.length_drop, List.length_take]; rfl)) ?_
       with_reducible refine (place_Plan.calls kj3 _ _ l0_0 _ _ l0_1 a0_2 _ _ t382 t385 t388 t391 t392 t393 t394 _ ?side1 ?side2 ?side3 ?side4 ?side5 ?side6 A27.out).mono ?_
       (case side1 => repeat (first | exact (Kd.C_below HR0_0.out HB.out) | (with_reducible refine Kd.C_alloc ?_ _) | (with_reducible refine Kd.C_drewN ?_ _) | (with_reducible refine Kd.C_drew ?_)))
       (case side2 => exact HC0_0.out)
       (case side3 => repeat (first | exact (Kd.V_reads' HO_362001.out).2.2 | (with_reducible refine Kd.C_alloc ?_ _) | (with_reducible refine Kd.C_drewN ?_ _) | (with_reducible refine Kd.C_drew ?_)))
       (case side4 => exact (Kd.V_reads' HO_362001.out).2.1)
       (case side5 => repeat (first | exact (Kd.R_reads' HO384.out).2.2 | (with_reducible refine Kd.C_alloc ?_ _) | (with_reducible refine Kd.C_drewN ?_ _) | (with_reducible refine Kd.C_drew ?_)))
       (case side6 => exact (Kd.R_reads' HO384.out).2.1)
       rintro e w55 ⟨v386, v389, rfl, ho0, ho1, hb⟩
       refine ⟨_, rfl, ?_⟩
       have n0_ := Aside0.mk (Kd.V_mono (Kd.V_told (Kd.V_told (Kd.V_old HO_362001.out hb) (Kd.R_base ho0)) (Kd.R_base ho1)) (fun _ h_ => h_.1))
       have n1_ := Aside0.mk (Kd.N_mono (Kd.N_told (Kd.N_told (Kd.N_old HO381.out hb) (Kd.R_base ho0)) (Kd.R_base ho1)) (fun _ h_ => h_.1))
       have n2_ := Aside0.mk (Kd.R_mono (Kd.R_told (Kd.R_told (Kd.R_old HO384.out hb) (Kd.R_base ho0)) (Kd.R_base ho1)) (fun _ h_ => h_.1))
       have n3_ := Aside0.mk (Kd.R_lower (Kd.R_new' (Kd.R_newM (M := fun k_ => (w.heap.size ≤ k_)) ho0 (below_size (by apply_rules (transparency := .reducible) only [HB.out, below_alloc, pw_below_drewN, below_drew1, below_set, GE361.out, GE365.out])) (fun k_ h_ => h_)) (Kd.R_lt HO384.out)) (below_size (by apply_rules (transparency := .reducible) only [HB.out, below_alloc, pw_below_drewN, below_drew1, below_set, GE361.out, GE365.out])))
       have n4_ := Aside0.mk (Kd.R_lower (Kd.R_new' (Kd.R_newM (M := fun k_ => (w.heap.size ≤ k_)) ho1 (below_size (by apply_rules (transparency := .reducible) only [HB.out, below_alloc, pw_below_drewN, below_drew1, below_set, GE361.out, GE365.out])) (fun k_ h_ => h_)) (Kd.R_lt HO384.out)) (below_size (by apply_rules (transparency := .reducible) only [HB.out, below_alloc, pw_below_drewN, below_drew1, below_set, GE361.out, GE365.out])))
       have n5_ := Aside0.mk (blk_below (g := gb361) (o := _) BK361.out hb)
       have n6_ := Aside0.mk (blk_below (g := gb365) (o := _) BK365.out hb)
       have n7_ := Aside0.mk (below_step (by apply_rules (transparency := .reducible) only [HB.out, below_alloc, pw_below_drewN, below_drew1, below_set, GE361.out, GE365.out]) hb)
       clear HO_362001 HO381 HO384 BK361 BK365 HB; have HO_362001 := n0_; have HO381 := n1_; have HO384 := n2_; have HO387 := n3_; have HO390 := n4_; have BK361 := n5_; have BK365 := n6_; have HB := n7_; clear n0_ n1_ n2_ n3_ n4_ n5_ n6_ n7_
       (try clear hb)
       (try clear hb2)
       (try clear hk)
       (try clear hi)
       (try clear ho0)
       (try clear ho1)
       refine hK.out _ _ ⟨(blk_cell BK361.out 0).trans rfl, (blk_cell BK361.out 1).trans rfl, (blk_cell BK361.out 2).trans rfl⟩ (fun hHeld => ?_)
       clear hK K
       refine norm_ (a' := ?_) ?_ ?_
       rotate_left; (show Act.put _ (some 48) _ = _; simp only [Act.put, List.setIfInBounds_toArray, List.set_cons_zero, List.set_cons_succ, i64_w, i32_w]; rfl)
       refine pure_ (i := 4) (N := some 44) (v := ?_) (a' := ?_) #[tT,tT,tT,tT,tT,fF,fF,fF,fF,fF] rfl rfl (any_of HT_.out (by kernel_rfl)) (fun _ _ _ h => h) (Or.inl ⟨by rfl, ?_⟩) ?_ ?_
       rotate_left; (intro w'; go_simp; with_reducible rfl); rotate_left; (simp only [Act.put, List.setIfInBounds_toArray, List.set_cons_zero, List.set_cons_succ, i64_w, i32_w]; rfl)
       refine pure_ (i := 5) (N := some 49) (v := ?_) (a' := ?_) #[tT,tT,tT,tT,tT,tT,fF,fF,fF,fF] rfl rfl (any_of HT_.out (by kernel_rfl)) (fun _ _ _ h => h) (Or.inl ⟨by rfl, ?_⟩) ?_ ?_
       rotate_left; (intro w'; go_simp; with_reducible rfl); rotate_left; (simp only [Act.put, List.setIfInBounds_toArray, List.set_cons_zero, List.set_cons_succ, i64_w, i32_w]; rfl)
       refine pure_ (i := 6) (N := some 50) (v := ?_) (a' := ?_) #[tT,tT,tT,tT,tT,tT,tT,fF,fF,fF] rfl rfl (any_of HT_.out (by kernel_rfl)) (fun _ _ _ h => h) (Or.inl ⟨by rfl, ?_⟩) ?_ ?_
       rotate_left; (intro w'; go_simp; with_reducible rfl); rotate_left; (simp only [Act.put, List.setIfInBounds_toArray, List.set_cons_zero, List.set_cons_succ, i64_w, i32_w]; rfl)
       refine one_ (i := 7) (N := some 8) #[tT,tT,tT,tT,tT,tT,tT,tT,fF,fF] rfl rfl (one_of HT_.out (by kernel_rfl)) (by decide) (fun K hK => ?_)
       refine box_step ?g1 (N := 8) ?hd (cs := #[.slice none 0 0, .slice none 0 0, .int .i64 0, .int .i64 0, .int .i64 0]) (t := 30) ?hr ?_; (case hd => rfl); (case g1 => rfl); (case hr => first | (go_simp; done) | (go_simp; rfl))
       intro gb395 hg w56 hbox hb
       have n0_ := Aside0.mk (Kd.V_below (Kd.V_elderB HO_362001.out gb395 (Nat.le_of_eq hg.symm)) hb)
       have n1_ := Aside0.mk (Kd.N_below (Kd.N_elderB HO381.out gb395 (Nat.le_of_eq hg.symm)) hb)
       have n2_ := Aside0.mk (Kd.R_below HO384.out hb)
       have n3_ := Aside0.mk (Kd.R_below HO387.out hb)
       have n4_ := Aside0.mk (Kd.R_below HO390.out hb)
       have n5_ := Aside0.mk (blk_below (g := gb361) (o := _) BK361.out hb)
       have n6_ := Aside0.mk (blk_below (g := gb365) (o := _) BK365.out hb)
       have n7_ := Aside0.mk (below_step (by apply_rules (transparency := .reducible) only [HB.out, below_alloc, pw_below_drewN, below_drew1, below_set, GE361.out, GE365.out]) hb)
       have n8_ := Aside0.mk (hbox)
       have n9_ := Aside0.mk ((by rw [hg]; exact (below_size (by apply_rules (transparency := .reducible) only [HB.out, below_alloc, pw_below_drewN, below_drew1, below_set, GE361.out, GE365.out])) : w.heap.size ≤ gb395))
       have n10_ := Aside0.mk ((by rw [hg]; exact (below_size (by apply_rules (transparency := .reducible) only [HB.out, below_alloc, pw_below_drewN, below_drew1, below_set, GE361.out, GE365.out])) : w.heap.size ≤ gb395))
       have n11_ := Aside0.mk ((by rw [hg]; exact Nat.ne_of_lt (blk_lt (g := gb361) (o := _) BK361.out) : gb361 ≠ gb395))
       have n12_ := Aside0.mk ((by rw [hg]; exact Nat.ne_of_gt (blk_lt (g := gb361) (o := _) BK361.out) : gb395 ≠ gb361))
       have n13_ := Aside0.mk ((by rw [hg]; exact Nat.ne_of_lt (blk_lt (g := gb365) (o := _) BK365.out) : gb365 ≠ gb395))
       have n14_ := Aside0.mk ((by rw [hg]; exact Nat.ne_of_gt (blk_lt (g := gb365) (o := _) BK365.out) : gb395 ≠ gb365))
       clear HO_362001 HO381 HO384 HO387 HO390 BK361 BK365 HB; have HO_362001 := n0_; have HO381 := n1_; have HO384 := n2_; have HO387 := n3_; have HO390 := n4_; have BK361 := n5_; have BK365 := n6_; have HB := n7_; have BK395 := n8_; have GW395 := n9_; have GE395 := n10_; have NB361_395 := n11_; have NB395_361 := n12_; have NB365_395 := n13_; have NB395_365 := n14_; clear n0_ n1_ n2_ n3_ n4_ n5_ n6_ n7_ n8_ n9_ n10_ n11_ n12_ n13_ n14_
       clear hb hbox hg
       refine hK.out _ _ ⟨(blk_cell BK361.out 0).trans rfl, (blk_cell BK361.out 1).trans rfl, (blk_cell BK361.out 2).trans rfl⟩ (fun hHeld => ?_)
       clear hK K
       refine norm_ (a' := ?_) ?_ ?_
       rotate_left; (show Act.put _ (some 8) _ = _; simp only [Act.put, List.setIfInBounds_toArray, List.set_cons_zero, List.set_cons_succ, i64_w, i32_w]; rfl)
       exact norm_ (by simp only [putAll, Act.put, List.setIfInBounds_toArray, List.set_cons_zero, List.set_cons_succ]) (hCont (.slice Ao54 t382.length co54, v386, v389, gb395) _ ⟨hHeld, (Kd.N_mono HO381.out (fun _ hk => ⟨hk.1.1.1.1.1, hk.1.1.1.2, hk.1.1.2, hk.1.2, hk.1.1.1.1.2.2.1, hk.1.1.1.1.2.2.2, hk.2⟩)), (Kd.R_mono HO384.out (fun _ hk => ⟨hk.1.1.1, hk.1.2, hk.2⟩)), (Kd.R_mono HO387.out (fun _ hk => ⟨hk.1.1, hk.2, hk.1.2⟩)), (Kd.R_mono HO390.out (fun _ hk => ⟨hk.1.1, hk.2, hk.1.2⟩)), (Kd.V_mono HO_362001.out (fun _ hk => ⟨hk.1.1.1.1.1, hk.1.1.1.1.2.2.2.1, hk.1.1.1.2, hk.1.1.2, hk.1.2, hk.1.1.1.1.2.2.2.2.1, hk.1.1.1.1.2.2.2.2.2, hk.2⟩)), BK361.out, BK365.out, BK395.out, GW395.out, GE395.out, NB361_395.out, NB395_361.out, NB365_395.out, NB395_365.out, (by apply_rules (transparency := .reducible) only [HB.out, below_alloc, pw_below_drewN, below_drew1, below_set, GE361.out, GE365.out, GE395.out])⟩)
      ·
       refine box_step ?g2 (N := 8) ?hd (cs := #[.slice none 0 0, .slice none 0 0, .int .i64 0, .int .i64 0, .int .i64 0]) (t := 30) ?hr ?_; (case hd => rfl); (case g2 => rfl); (case hr => first | (go_simp; done) | (go_simp; rfl))
       intro gb395 hg w54 hbox hb
       have n0_ := Aside0.mk (Kd.V_below (Kd.V_elderB HO_362001.out gb395 (Nat.le_of_eq hg.symm)) hb)
       have n1_ := Aside0.mk (Kd.N_below (Kd.N_elderB HO381.out gb395 (Nat.le_of_eq hg.symm)) hb)
       have n2_ := Aside0.mk (Kd.R_below HO384.out hb)
       have n3_ := Aside0.mk (blk_below (g := gb361) (o := _) BK361.out hb)
       have n4_ := Aside0.mk (blk_below (g := gb365) (o := _) BK365.out hb)
       have n5_ := Aside0.mk (below_step (by apply_rules (transparency := .reducible) only [HB.out, below_alloc, pw_below_drewN, below_drew1, below_set, GE361.out, GE365.out]) hb)
       have n6_ := Aside0.mk (hbox)
       have n7_ := Aside0.mk ((by rw [hg]; exact (below_size (by apply_rules (transparency := .reducible) only [HB.out, below_alloc, pw_below_drewN, below_drew1, below_set, GE361.out, GE365.out])) : w.heap.size ≤ gb395))
       have n8_ := Aside0.mk ((by rw [hg]; exact (below_size (by apply_rules (transparency := .reducible) only [HB.out, below_alloc, pw_below_drewN, below_drew1, below_set, GE361.out, GE365.out])) : w.heap.size ≤ gb395))
       have n9_ := Aside0.mk ((by rw [hg]; exact Nat.ne_of_lt (blk_lt (g := gb361) (o := _) BK361.out) : gb361 ≠ gb395))
       have n10_ := Aside0.mk ((by rw [hg]; exact Nat.ne_of_gt (blk_lt (g := gb361) (o := _) BK361.out) : gb395 ≠ gb361))
       have n11_ := Aside0.mk ((by rw [hg]; exact Nat.ne_of_lt (blk_lt (g := gb365) (o := _) BK365.out) : gb365 ≠ gb395))
       have n12_ := Aside0.mk ((by rw [hg]; exact Nat.ne_of_gt (blk_lt (g := gb365) (o := _) BK365.out) : gb395 ≠ gb365))
       clear HO_362001 HO381 HO384 BK361 BK365 HB; have HO_362001 := n0_; have HO381 := n1_; have HO384 := n2_; have BK361 := n3_; have BK365 := n4_; have HB := n5_; have BK395 := n6_; have GW395 := n7_; have GE395 := n8_; have NB361_395 := n9_; have NB395_361 := n10_; have NB365_395 := n11_; have NB395_365 := n12_; clear n0_ n1_ n2_ n3_ n4_ n5_ n6_ n7_ n8_ n9_ n10_ n11_ n12_
       clear hb hbox hg
       obtain ⟨Ao55, co55, eo55⟩ := Kd.R_slice HO384.out
       (first | subst eo55 | (injection eo55 with f1_ f2_ f3_; have f4_ := f1_.symm; have f5_ := f3_.symm; clear f1_ f2_ f3_; subst f4_; subst f5_))
       refine hK.out _ _ ⟨(blk_cell BK361.out 0).trans rfl, (blk_cell BK361.out 1).trans rfl, (blk_cell BK361.out 2).trans rfl⟩ (fun hHeld => ?_)
       clear hK K
       refine norm_ (a' := ?_) ?_ ?_
       rotate_left; (show Act.put _ (some 8) _ = _; simp only [Act.put, List.setIfInBounds_toArray, List.set_cons_zero, List.set_cons_succ, i64_w, i32_w]; rfl)
       refine one_ (i := 3) (N := some 48) #[tT,tT,tT,tT,fF,fF,fF,tT,fF,fF] rfl rfl (one_of HT_.out (by kernel_rfl)) (by decide) (fun K hK => ?_)
       refine goes_ Try.func10 (by kernel_rfl) rfl #[.agg #[.slice A0_0 l0_0.length c0_0, .slice A0_1 l0_1.length c0_1, .int .i64 a0_2], .slice Ao55 t382.length co55] (by rfl) rfl rfl (by (try simp only [List.map_toArray, List.map_cons, List.map_nil]); first | done | rfl | (simp only [List.length_drop, List.length_take]; rfl)) ?_
       with_reducible refine (place_Plan.calls kj3 _ _ l0_0 _ _ l0_1 a0_2 _ _ t382 t385 t388 t391 t392 t393 t394 _ ?side1 ?side2 ?side3 ?side4 ?side5 ?side6 A27.out).mono ?_
       (case side1 => repeat (first | exact (Kd.C_below HR0_0.out HB.out) | (with_reducible refine Kd.C_alloc ?_ _) | (with_reducible refine Kd.C_drewN ?_ _) | (with_reducible refine Kd.C_drew ?_)))
       (case side2 => exact HC0_0.out)
       (case side3 => repeat (first | exact (Kd.V_reads' HO_362001.out).2.2 | (with_reducible refine Kd.C_alloc ?_ _) | (with_reducible refine Kd.C_drewN ?_ _) | (with_reducible refine Kd.C_drew ?_)))
       (case side4 => exact (Kd.V_reads' HO_362001.out).2.1)
       (case side5 => repeat (first | exact (Kd.R_reads' HO384.out).2.2 | (with_reducible refine Kd.C_alloc ?_ _) | (with_reducible refine Kd.C_drewN ?_ _) | (with_reducible refine Kd.C_drew ?_)))
       (case side6 => exact (Kd.R_reads' HO384.out).2.1)
       rintro e w56 ⟨v386, v389, rfl, ho0, ho1, hb⟩
       refine ⟨_, rfl, ?_⟩
       have n0_ := Aside0.mk (Kd.V_mono (Kd.V_told (Kd.V_told (Kd.V_old HO_362001.out hb) (Kd.R_base ho0)) (Kd.R_base ho1)) (fun _ h_ => h_.1))
       have n1_ := Aside0.mk (Kd.N_mono (Kd.N_told (Kd.N_told (Kd.N_old HO381.out hb) (Kd.R_base ho0)) (Kd.R_base ho1)) (fun _ h_ => h_.1))
       have n2_ := Aside0.mk (Kd.R_mono (Kd.R_told (Kd.R_told (Kd.R_old HO384.out hb) (Kd.R_base ho0)) (Kd.R_base ho1)) (fun _ h_ => h_.1))
       have n3_ := Aside0.mk (Kd.R_lower (Kd.R_new' (Kd.R_newM (M := fun k_ => (w.heap.size ≤ k_)) ho0 (below_size (by apply_rules (transparency := .reducible) only [HB.out, below_alloc, pw_below_drewN, below_drew1, below_set, GE361.out, GE365.out, GE395.out])) (fun k_ h_ => h_)) (Kd.R_lt HO384.out)) (below_size (by apply_rules (transparency := .reducible) only [HB.out, below_alloc, pw_below_drewN, below_drew1, below_set, GE361.out, GE365.out, GE395.out])))
       have n4_ := Aside0.mk (Kd.R_lower (Kd.R_new' (Kd.R_newM (M := fun k_ => (w.heap.size ≤ k_)) ho1 (below_size (by apply_rules (transparency := .reducible) only [HB.out, below_alloc, pw_below_drewN, below_drew1, below_set, GE361.out, GE365.out, GE395.out])) (fun k_ h_ => h_)) (Kd.R_lt HO384.out)) (below_size (by apply_rules (transparency := .reducible) only [HB.out, below_alloc, pw_below_drewN, below_drew1, below_set, GE361.out, GE365.out, GE395.out])))
       have n5_ := Aside0.mk (blk_below (g := gb361) (o := _) BK361.out hb)
       have n6_ := Aside0.mk (blk_below (g := gb365) (o := _) BK365.out hb)
       have n7_ := Aside0.mk (blk_below (g := gb395) (o := _) BK395.out hb)
       have n8_ := Aside0.mk (below_step (by apply_rules (transparency := .reducible) only [HB.out, below_alloc, pw_below_drewN, below_drew1, below_set, GE361.out, GE365.out, GE395.out]) hb)
       clear HO_362001 HO381 HO384 BK361 BK365 BK395 HB; have HO_362001 := n0_; have HO381 := n1_; have HO384 := n2_; have HO387 := n3_; have HO390 := n4_; have BK361 := n5_; have BK365 := n6_; have BK395 := n7_; have HB := n8_; clear n0_ n1_ n2_ n3_ n4_ n5_ n6_ n7_ n8_
       (try clear hb)
       (try clear hb2)
       (try clear hk)
       (try clear hi)
       (try clear ho0)
       (try clear ho1)
       refine hK.out _ _ ⟨(blk_cell BK361.out 0).trans rfl, (blk_cell BK361.out 1).trans rfl, (blk_cell BK361.out 2).trans rfl⟩ (fun hHeld => ?_)
       clear hK K
       refine norm_ (a' := ?_) ?_ ?_
       rotate_left; (show Act.put _ (some 48) _ = _; simp only [Act.put, List.setIfInBounds_toArray, List.set_cons_zero, List.set_cons_succ, i64_w, i32_w]; rfl)
       refine pure_ (i := 4) (N := some 44) (v := ?_) (a' := ?_) #[tT,tT,tT,tT,tT,fF,fF,tT,fF,fF] rfl rfl (any_of HT_.out (by kernel_rfl)) (fun _ _ _ h => h) (Or.inl ⟨by rfl, ?_⟩) ?_ ?_
       rotate_left; (intro w'; go_simp; with_reducible rfl); rotate_left; (simp only [Act.put, List.setIfInBounds_toArray, List.set_cons_zero, List.set_cons_succ, i64_w, i32_w]; rfl)
       refine pure_ (i := 5) (N := some 49) (v := ?_) (a' := ?_) #[tT,tT,tT,tT,tT,tT,fF,tT,fF,fF] rfl rfl (any_of HT_.out (by kernel_rfl)) (fun _ _ _ h => h) (Or.inl ⟨by rfl, ?_⟩) ?_ ?_
       rotate_left; (intro w'; go_simp; with_reducible rfl); rotate_left; (simp only [Act.put, List.setIfInBounds_toArray, List.set_cons_zero, List.set_cons_succ, i64_w, i32_w]; rfl)
       refine pure_ (i := 6) (N := some 50) (v := ?_) (a' := ?_) #[tT,tT,tT,tT,tT,tT,tT,tT,fF,fF] rfl rfl (any_of HT_.out (by kernel_rfl)) (fun _ _ _ h => h) (Or.inl ⟨by rfl, ?_⟩) ?_ ?_
       rotate_left; (intro w'; go_simp; with_reducible rfl); rotate_left; (simp only [Act.put, List.setIfInBounds_toArray, List.set_cons_zero, List.set_cons_succ, i64_w, i32_w]; rfl)
       exact norm_ (by simp only [putAll, Act.put, List.setIfInBounds_toArray, List.set_cons_zero, List.set_cons_succ]) (hCont (.slice Ao55 t382.length co55, v386, v389, gb395) _ ⟨hHeld, (Kd.N_mono HO381.out (fun _ hk => ⟨hk.1.1.1.1.1, hk.1.1.1.2, hk.1.2, hk.2, hk.1.1.1.1.2.2.1, hk.1.1.1.1.2.2.2, hk.1.1.2⟩)), (Kd.R_mono HO384.out (fun _ hk => ⟨hk.1.1.1, hk.1.2, hk.2⟩)), (Kd.R_mono HO387.out (fun _ hk => ⟨hk.1.1, hk.2, hk.1.2⟩)), (Kd.R_mono HO390.out (fun _ hk => ⟨hk.1.1, hk.2, hk.1.2⟩)), (Kd.V_mono HO_362001.out (fun _ hk => ⟨hk.1.1.1.1.1, hk.1.1.1.1.2.2.2.1, hk.1.1.1.2, hk.1.2, hk.2, hk.1.1.1.1.2.2.2.2.1, hk.1.1.1.1.2.2.2.2.2, hk.1.1.2⟩)), BK361.out, BK365.out, BK395.out, GW395.out, GE395.out, NB361_395.out, NB395_361.out, NB365_395.out, NB395_365.out, (by apply_rules (transparency := .reducible) only [HB.out, below_alloc, pw_below_drewN, below_drew1, below_set, GE361.out, GE365.out, GE395.out])⟩)
     ·
      refine box_step ?g3 (N := 8) ?hd (cs := #[.slice none 0 0, .slice none 0 0, .int .i64 0, .int .i64 0, .int .i64 0]) (t := 30) ?hr ?_; (case hd => rfl); (case g3 => rfl); (case hr => first | (go_simp; done) | (go_simp; rfl))
      intro gb395 hg w53 hbox hb
      have n0_ := Aside0.mk (Kd.V_below (Kd.V_elderB HO_362001.out gb395 (Nat.le_of_eq hg.symm)) hb)
      have n1_ := Aside0.mk (Kd.N_below (Kd.N_elderB HO381.out gb395 (Nat.le_of_eq hg.symm)) hb)
      have n2_ := Aside0.mk (blk_below (g := gb361) (o := _) BK361.out hb)
      have n3_ := Aside0.mk (blk_below (g := gb365) (o := _) BK365.out hb)
      have n4_ := Aside0.mk (below_step (by apply_rules (transparency := .reducible) only [HB.out, below_alloc, pw_below_drewN, below_drew1, below_set, GE361.out, GE365.out]) hb)
      have n5_ := Aside0.mk (hbox)
      have n6_ := Aside0.mk ((by rw [hg]; exact (below_size (by apply_rules (transparency := .reducible) only [HB.out, below_alloc, pw_below_drewN, below_drew1, below_set, GE361.out, GE365.out])) : w.heap.size ≤ gb395))
      have n7_ := Aside0.mk ((by rw [hg]; exact (below_size (by apply_rules (transparency := .reducible) only [HB.out, below_alloc, pw_below_drewN, below_drew1, below_set, GE361.out, GE365.out])) : w.heap.size ≤ gb395))
      have n8_ := Aside0.mk ((by rw [hg]; exact Nat.ne_of_lt (blk_lt (g := gb361) (o := _) BK361.out) : gb361 ≠ gb395))
      have n9_ := Aside0.mk ((by rw [hg]; exact Nat.ne_of_gt (blk_lt (g := gb361) (o := _) BK361.out) : gb395 ≠ gb361))
      have n10_ := Aside0.mk ((by rw [hg]; exact Nat.ne_of_lt (blk_lt (g := gb365) (o := _) BK365.out) : gb365 ≠ gb395))
      have n11_ := Aside0.mk ((by rw [hg]; exact Nat.ne_of_gt (blk_lt (g := gb365) (o := _) BK365.out) : gb395 ≠ gb365))
      clear HO_362001 HO381 BK361 BK365 HB; have HO_362001 := n0_; have HO381 := n1_; have BK361 := n2_; have BK365 := n3_; have HB := n4_; have BK395 := n5_; have GW395 := n6_; have GE395 := n7_; have NB361_395 := n8_; have NB395_361 := n9_; have NB365_395 := n10_; have NB395_365 := n11_; clear n0_ n1_ n2_ n3_ n4_ n5_ n6_ n7_ n8_ n9_ n10_ n11_
      clear hb hbox hg
      refine hK.out _ _ ⟨(blk_cell BK361.out 0).trans rfl, (blk_cell BK361.out 1).trans rfl, (blk_cell BK361.out 2).trans rfl⟩ (fun hHeld => ?_)
      clear hK K
      refine norm_ (a' := ?_) ?_ ?_
      rotate_left; (show Act.put _ (some 8) _ = _; simp only [Act.put, List.setIfInBounds_toArray, List.set_cons_zero, List.set_cons_succ, i64_w, i32_w]; rfl)
      refine one_ (i := 2) (N := some 47) #[tT,tT,tT,fF,fF,fF,fF,tT,fF,fF] rfl rfl (one_of HT_.out (by kernel_rfl)) (by decide) (fun K hK => ?_)
      refine goes_ Try.func13 (by kernel_rfl) rfl #[.agg #[.slice A0_0 l0_0.length c0_0, .slice A0_1 l0_1.length c0_1, .int .i64 a0_2]] (by rfl) rfl rfl (by (try simp only [List.map_toArray, List.map_cons, List.map_nil]); first | done | rfl | (simp only [List.length_drop, List.length_take]; rfl)) ?_
      with_reducible refine (place_All.calls kj3 _ _ l0_0 _ _ l0_1 a0_2 t382 _ ?side1 ?side2 ?side3 ?side4 A26.out).mono ?_
      (case side1 => repeat (first | exact (Kd.C_below HR0_0.out HB.out) | (with_reducible refine Kd.C_alloc ?_ _) | (with_reducible refine Kd.C_drewN ?_ _) | (with_reducible refine Kd.C_drew ?_)))
      (case side2 => exact HC0_0.out)
      (case side3 => repeat (first | exact (Kd.V_reads' HO_362001.out).2.2 | (with_reducible refine Kd.C_alloc ?_ _) | (with_reducible refine Kd.C_drewN ?_ _) | (with_reducible refine Kd.C_drew ?_)))
      (case side4 => exact (Kd.V_reads' HO_362001.out).2.1)
      rintro e w54 ⟨v383, rfl, ho0, hb⟩
      refine ⟨_, rfl, ?_⟩
      have n0_ := Aside0.mk (Kd.V_elder' HO_362001.out (Kd.R_base ho0) hb)
      have n1_ := Aside0.mk (Kd.N_elder' HO381.out (Kd.R_base ho0) hb)
      have n2_ := Aside0.mk (Kd.R_lower (Kd.R_newM (M := fun k_ => (w.heap.size ≤ k_)) ho0 (below_size (by apply_rules (transparency := .reducible) only [HB.out, below_alloc, pw_below_drewN, below_drew1, below_set, GE361.out, GE365.out, GE395.out])) (fun k_ h_ => h_)) (below_size (by apply_rules (transparency := .reducible) only [HB.out, below_alloc, pw_below_drewN, below_drew1, below_set, GE361.out, GE365.out, GE395.out])))
      have n3_ := Aside0.mk (blk_below (g := gb361) (o := _) BK361.out hb)
      have n4_ := Aside0.mk (blk_below (g := gb365) (o := _) BK365.out hb)
      have n5_ := Aside0.mk (blk_below (g := gb395) (o := _) BK395.out hb)
      have n6_ := Aside0.mk (below_step (by apply_rules (transparency := .reducible) only [HB.out, below_alloc, pw_below_drewN, below_drew1, below_set, GE361.out, GE365.out, GE395.out]) hb)
      clear HO_362001 HO381 BK361 BK365 BK395 HB; have HO_362001 := n0_; have HO381 := n1_; have HO384 := n2_; have BK361 := n3_; have BK365 := n4_; have BK395 := n5_; have HB := n6_; clear n0_ n1_ n2_ n3_ n4_ n5_ n6_
      (try clear hb)
      (try clear hb2)
      (try clear hk)
      (try clear hi)
      (try clear ho0)
      obtain ⟨Ao55, co55, eo55⟩ := Kd.R_slice HO384.out
      (first | subst eo55 | (injection eo55 with f1_ f2_ f3_; have f4_ := f1_.symm; have f5_ := f3_.symm; clear f1_ f2_ f3_; subst f4_; subst f5_))
      refine hK.out _ _ ⟨(blk_cell BK361.out 0).trans rfl, (blk_cell BK361.out 1).trans rfl, (blk_cell BK361.out 2).trans rfl⟩ (fun hHeld => ?_)
      clear hK K
      refine norm_ (a' := ?_) ?_ ?_
      rotate_left; (show Act.put _ (some 47) _ = _; simp only [Act.put, List.setIfInBounds_toArray, List.set_cons_zero, List.set_cons_succ, i64_w, i32_w]; rfl)
      refine one_ (i := 3) (N := some 48) #[tT,tT,tT,tT,fF,fF,fF,tT,fF,fF] rfl rfl (one_of HT_.out (by kernel_rfl)) (by decide) (fun K hK => ?_)
      refine goes_ Try.func10 (by kernel_rfl) rfl #[.agg #[.slice A0_0 l0_0.length c0_0, .slice A0_1 l0_1.length c0_1, .int .i64 a0_2], .slice Ao55 t382.length co55] (by rfl) rfl rfl (by (try simp only [List.map_toArray, List.map_cons, List.map_nil]); first | done | rfl | (simp only [List.length_drop, List.length_take]; rfl)) ?_
      with_reducible refine (place_Plan.calls kj3 _ _ l0_0 _ _ l0_1 a0_2 _ _ t382 t385 t388 t391 t392 t393 t394 _ ?side1 ?side2 ?side3 ?side4 ?side5 ?side6 A27.out).mono ?_
      (case side1 => repeat (first | exact (Kd.C_below HR0_0.out HB.out) | (with_reducible refine Kd.C_alloc ?_ _) | (with_reducible refine Kd.C_drewN ?_ _) | (with_reducible refine Kd.C_drew ?_)))
      (case side2 => exact HC0_0.out)
      (case side3 => repeat (first | exact (Kd.V_reads' HO_362001.out).2.2 | (with_reducible refine Kd.C_alloc ?_ _) | (with_reducible refine Kd.C_drewN ?_ _) | (with_reducible refine Kd.C_drew ?_)))
      (case side4 => exact (Kd.V_reads' HO_362001.out).2.1)
      (case side5 => repeat (first | exact (Kd.R_reads' HO384.out).2.2 | (with_reducible refine Kd.C_alloc ?_ _) | (with_reducible refine Kd.C_drewN ?_ _) | (with_reducible refine Kd.C_drew ?_)))
      (case side6 => exact (Kd.R_reads' HO384.out).2.1)
      rintro e w56 ⟨v386, v389, rfl, ho0, ho1, hb⟩
      refine ⟨_, rfl, ?_⟩
      have n0_ := Aside0.mk (Kd.V_mono (Kd.V_told (Kd.V_told (Kd.V_old HO_362001.out hb) (Kd.R_base ho0)) (Kd.R_base ho1)) (fun _ h_ => h_.1))
      have n1_ := Aside0.mk (Kd.N_mono (Kd.N_told (Kd.N_told (Kd.N_old HO381.out hb) (Kd.R_base ho0)) (Kd.R_base ho1)) (fun _ h_ => h_.1))
      have n2_ := Aside0.mk (Kd.R_mono (Kd.R_told (Kd.R_told (Kd.R_old HO384.out hb) (Kd.R_base ho0)) (Kd.R_base ho1)) (fun _ h_ => h_.1))
      have n3_ := Aside0.mk (Kd.R_lower (Kd.R_new' (Kd.R_newM (M := fun k_ => (w.heap.size ≤ k_)) ho0 (below_size (by apply_rules (transparency := .reducible) only [HB.out, below_alloc, pw_below_drewN, below_drew1, below_set, GE361.out, GE365.out, GE395.out])) (fun k_ h_ => h_)) (Kd.R_lt HO384.out)) (below_size (by apply_rules (transparency := .reducible) only [HB.out, below_alloc, pw_below_drewN, below_drew1, below_set, GE361.out, GE365.out, GE395.out])))
      have n4_ := Aside0.mk (Kd.R_lower (Kd.R_new' (Kd.R_newM (M := fun k_ => (w.heap.size ≤ k_)) ho1 (below_size (by apply_rules (transparency := .reducible) only [HB.out, below_alloc, pw_below_drewN, below_drew1, below_set, GE361.out, GE365.out, GE395.out])) (fun k_ h_ => h_)) (Kd.R_lt HO384.out)) (below_size (by apply_rules (transparency := .reducible) only [HB.out, below_alloc, pw_below_drewN, below_drew1, below_set, GE361.out, GE365.out, GE395.out])))
      have n5_ := Aside0.mk (blk_below (g := gb361) (o := _) BK361.out hb)
      have n6_ := Aside0.mk (blk_below (g := gb365) (o := _) BK365.out hb)
      have n7_ := Aside0.mk (blk_below (g := gb395) (o := _) BK395.out hb)
      have n8_ := Aside0.mk (below_step (by apply_rules (transparency := .reducible) only [HB.out, below_alloc, pw_below_drewN, below_drew1, below_set, GE361.out, GE365.out, GE395.out]) hb)
      clear HO_362001 HO381 HO384 BK361 BK365 BK395 HB; have HO_362001 := n0_; have HO381 := n1_; have HO384 := n2_; have HO387 := n3_; have HO390 := n4_; have BK361 := n5_; have BK365 := n6_; have BK395 := n7_; have HB := n8_; clear n0_ n1_ n2_ n3_ n4_ n5_ n6_ n7_ n8_
      (try clear hb)
      (try clear hb2)
      (try clear hk)
      (try clear hi)
      (try clear ho0)
      (try clear ho1)
      refine hK.out _ _ ⟨(blk_cell BK361.out 0).trans rfl, (blk_cell BK361.out 1).trans rfl, (blk_cell BK361.out 2).trans rfl⟩ (fun hHeld => ?_)
      clear hK K
      refine norm_ (a' := ?_) ?_ ?_
      rotate_left; (show Act.put _ (some 48) _ = _; simp only [Act.put, List.setIfInBounds_toArray, List.set_cons_zero, List.set_cons_succ, i64_w, i32_w]; rfl)
      refine pure_ (i := 4) (N := some 44) (v := ?_) (a' := ?_) #[tT,tT,tT,tT,tT,fF,fF,tT,fF,fF] rfl rfl (any_of HT_.out (by kernel_rfl)) (fun _ _ _ h => h) (Or.inl ⟨by rfl, ?_⟩) ?_ ?_
      rotate_left; (intro w'; go_simp; with_reducible rfl); rotate_left; (simp only [Act.put, List.setIfInBounds_toArray, List.set_cons_zero, List.set_cons_succ, i64_w, i32_w]; rfl)
      refine pure_ (i := 5) (N := some 49) (v := ?_) (a' := ?_) #[tT,tT,tT,tT,tT,tT,fF,tT,fF,fF] rfl rfl (any_of HT_.out (by kernel_rfl)) (fun _ _ _ h => h) (Or.inl ⟨by rfl, ?_⟩) ?_ ?_
      rotate_left; (intro w'; go_simp; with_reducible rfl); rotate_left; (simp only [Act.put, List.setIfInBounds_toArray, List.set_cons_zero, List.set_cons_succ, i64_w, i32_w]; rfl)
      refine pure_ (i := 6) (N := some 50) (v := ?_) (a' := ?_) #[tT,tT,tT,tT,tT,tT,tT,tT,fF,fF] rfl rfl (any_of HT_.out (by kernel_rfl)) (fun _ _ _ h => h) (Or.inl ⟨by rfl, ?_⟩) ?_ ?_
      rotate_left; (intro w'; go_simp; with_reducible rfl); rotate_left; (simp only [Act.put, List.setIfInBounds_toArray, List.set_cons_zero, List.set_cons_succ, i64_w, i32_w]; rfl)
      exact norm_ (by simp only [putAll, Act.put, List.setIfInBounds_toArray, List.set_cons_zero, List.set_cons_succ]) (hCont (.slice Ao55 t382.length co55, v386, v389, gb395) _ ⟨hHeld, (Kd.N_mono HO381.out (fun _ hk => ⟨hk.1.1.1.1.1, hk.1.1.2, hk.1.2, hk.2, hk.1.1.1.1.2.2.1, hk.1.1.1.1.2.2.2, hk.1.1.1.2⟩)), (Kd.R_mono HO384.out (fun _ hk => ⟨hk.1.1.1, hk.1.2, hk.2⟩)), (Kd.R_mono HO387.out (fun _ hk => ⟨hk.1.1, hk.2, hk.1.2⟩)), (Kd.R_mono HO390.out (fun _ hk => ⟨hk.1.1, hk.2, hk.1.2⟩)), (Kd.V_mono HO_362001.out (fun _ hk => ⟨hk.1.1.1.1.1, hk.1.1.1.1.2.2.2.1, hk.1.1.2, hk.1.2, hk.2, hk.1.1.1.1.2.2.2.2.1, hk.1.1.1.1.2.2.2.2.2, hk.1.1.1.2⟩)), BK361.out, BK365.out, BK395.out, GW395.out, GE395.out, NB361_395.out, NB395_361.out, NB365_395.out, NB395_365.out, (by apply_rules (transparency := .reducible) only [HB.out, below_alloc, pw_below_drewN, below_drew1, below_set, GE361.out, GE365.out, GE395.out])⟩)
    rintro ⟨v383, v386, v389, gb395⟩ w57 ⟨hS_, h0_, h1_, h2_, h3_, h4_, h5_, h6_, h7_, h8_, h9_, h10_, h11_, h12_, h13_, h14_⟩
    have n0_ : Aside0 (Kd.N k39 39 w57 w.heap.size (fun k_ => (P0_1_ k_ ∨ w.heap.size ≤ k_) ∧ some k_ ≠ (v383 : Value).ownBlock ∧ some k_ ≠ (v386 : Value).ownBlock ∧ some k_ ≠ (v389 : Value).ownBlock ∧ k_ ≠ gb361 ∧ k_ ≠ gb365 ∧ k_ ≠ gb395) (.slice Ao49 y379.length co49) y379) := ⟨h0_⟩
    have n1_ : Aside0 (Kd.R (Kd.int .i64) 3 w57 w.heap.size (fun k_ => (w.heap.size ≤ k_) ∧ some k_ ≠ (v386 : Value).ownBlock ∧ some k_ ≠ (v389 : Value).ownBlock) v383 t382) := ⟨h1_⟩
    have n2_ : Aside0 (Kd.R (Kd.int .i64) 3 w57 w.heap.size (fun k_ => (w.heap.size ≤ k_) ∧ some k_ ≠ (v383 : Value).ownBlock ∧ some k_ ≠ (v389 : Value).ownBlock) v386 t385) := ⟨h2_⟩
    have n3_ : Aside0 (Kd.R (Kd.int .i64) 3 w57 w.heap.size (fun k_ => (w.heap.size ≤ k_) ∧ some k_ ≠ (v383 : Value).ownBlock ∧ some k_ ≠ (v386 : Value).ownBlock) v389 t388) := ⟨h3_⟩
    have n4_ : Aside0 (Kd.V k39 39 w57 w.heap.size (fun k_ => (P0_1_ k_ ∨ w.heap.size ≤ k_) ∧ some k_ ≠ (.slice Ao49 y379.length co49 : Value).ownBlock ∧ some k_ ≠ (v383 : Value).ownBlock ∧ some k_ ≠ (v386 : Value).ownBlock ∧ some k_ ≠ (v389 : Value).ownBlock ∧ k_ ≠ gb361 ∧ k_ ≠ gb365 ∧ k_ ≠ gb395) (.slice A0_1 l0_1.length c0_1) l0_1) := ⟨h4_⟩
    have n5_ : Aside0 (w57.heap[gb361]? = some (.cells #[.slice A0_0 l0_0.length c0_0, .slice A0_1 l0_1.length c0_1, .int .i64 a0_2] 25 (0, 0))) := ⟨h5_⟩
    have n6_ : Aside0 (w57.heap[gb365]? = some (.cells #[.slice A0_0 l0_0.length c0_0, .slice Ao49 y379.length co49, .int .i64 a0_2] 25 (0, 0))) := ⟨h6_⟩
    have n7_ : Aside0 (w57.heap[gb395]? = some (.cells #[.slice none 0 0, .slice none 0 0, .int .i64 0, .int .i64 0, .int .i64 0] 30 (0, 0))) := ⟨h7_⟩
    have n8_ : Aside0 (w.heap.size ≤ gb395) := ⟨h8_⟩
    have n9_ : Aside0 (w.heap.size ≤ gb395) := ⟨h9_⟩
    have n10_ : Aside0 (gb361 ≠ gb395) := ⟨h10_⟩
    have n11_ : Aside0 (gb395 ≠ gb361) := ⟨h11_⟩
    have n12_ : Aside0 (gb365 ≠ gb395) := ⟨h12_⟩
    have n13_ : Aside0 (gb395 ≠ gb365) := ⟨h13_⟩
    have n14_ : Aside0 (Below w.heap.size w w57) := ⟨h14_⟩
    clear HO_362001 HO381 BK361 BK365 HB
    clear h0_ h1_ h2_ h3_ h4_ h5_ h6_ h7_ h8_ h9_ h10_ h11_ h12_ h13_ h14_
    have HO381 := n0_
    have HO384 := n1_
    have HO387 := n2_
    have HO390 := n3_
    have HO_362001 := n4_
    have BK361 := n5_
    have BK365 := n6_
    have BK395 := n7_
    have GW395 := n8_
    have GE395 := n9_
    have NB361_395 := n10_
    have NB395_361 := n11_
    have NB365_395 := n12_
    have NB395_365 := n13_
    have HB := n14_
    clear n0_ n1_ n2_ n3_ n4_ n5_ n6_ n7_ n8_ n9_ n10_ n11_ n12_ n13_ n14_
    have hHeld : w57.cell? ⟨gb361, 0, none⟩ = some (.slice A0_0 l0_0.length c0_0) ∧ w57.cell? ⟨gb361, 1, none⟩ = some (.slice A0_1 l0_1.length c0_1) ∧ w57.cell? ⟨gb361, 2, none⟩ = some (.int .i64 a0_2) := hS_
    obtain ⟨Ao58, co58, eo58⟩ := Kd.R_slice HO387.out
    (first | subst eo58 | (injection eo58 with f1_ f2_ f3_; have f4_ := f1_.symm; have f5_ := f3_.symm; clear f1_ f2_ f3_; subst f4_; subst f5_))
    obtain ⟨Ao60, co60, eo60⟩ := Kd.R_slice HO390.out
    (first | subst eo60 | (injection eo60 with f1_ f2_ f3_; have f4_ := f1_.symm; have f5_ := f3_.symm; clear f1_ f2_ f3_; subst f4_; subst f5_))
    refine norm_ (a' := ?_) ?_ ?_
    rotate_left
    ·
     simp only [putAll, Act.put, List.setIfInBounds_toArray, List.set_cons_zero, List.set_cons_succ]
     rfl
    refine one_ (i := 8) (N := none) #[tT,tT,tT,tT,tT,tT,tT,tT,tT,fF] rfl rfl (one_of HT_.out (by kernel_rfl)) (by decide) (fun K hK => ?_)
    have hs59 : w57.cell? ⟨gb395, 0, none⟩ = some (.slice none 0 0) := (blk_cell BK395.out 0).trans rfl
    have hfs59 := blk_frozen BK395.out 0
    have hns59_0 := NB361_395.out
    have hns59_1 := NB365_395.out
    have hms59_0 := NB395_361.out
    have hms59_1 := NB395_365.out
    have hs61 : w57.cell? ⟨gb395, 1, none⟩ = some (.slice none 0 0) := (blk_cell BK395.out 1).trans rfl
    have hfs61 := blk_frozen BK395.out 1
    have hns61_0 := NB361_395.out
    have hns61_1 := NB365_395.out
    have hms61_0 := NB395_361.out
    have hms61_1 := NB395_365.out
    have hs62 : w57.cell? ⟨gb395, 2, none⟩ = some (.int .i64 0) := (blk_cell BK395.out 2).trans rfl
    have hfs62 := blk_frozen BK395.out 2
    have hns62_0 := NB361_395.out
    have hns62_1 := NB365_395.out
    have hms62_0 := NB395_361.out
    have hms62_1 := NB395_365.out
    have hs63 : w57.cell? ⟨gb395, 3, none⟩ = some (.int .i64 0) := (blk_cell BK395.out 3).trans rfl
    have hfs63 := blk_frozen BK395.out 3
    have hns63_0 := NB361_395.out
    have hns63_1 := NB365_395.out
    have hms63_0 := NB395_361.out
    have hms63_1 := NB395_365.out
    have hs64 : w57.cell? ⟨gb395, 4, none⟩ = some (.int .i64 0) := (blk_cell BK395.out 4).trans rfl
    have hfs64 := blk_frozen BK395.out 4
    have hns64_0 := NB361_395.out
    have hns64_1 := NB365_395.out
    have hms64_0 := NB395_361.out
    have hms64_1 := NB395_365.out
    refine skip_ (w1 := ?_) (by rfl) rfl ?_ ?_
    rotate_left
    ·
     go_simp
     rfl
    refine hK.out _ _ ⟨((cell_far (p := ⟨gb395, _, none⟩) NB361_395.out _).trans (((cell_far (p := ⟨gb395, _, none⟩) NB361_395.out _).trans (((cell_far (p := ⟨gb395, _, none⟩) NB361_395.out _).trans (((cell_far (p := ⟨gb395, _, none⟩) NB361_395.out _).trans (((cell_far (p := ⟨gb395, _, none⟩) NB361_395.out _).trans (hHeld.1)))))))))), ((cell_far (p := ⟨gb395, _, none⟩) NB361_395.out _).trans (((cell_far (p := ⟨gb395, _, none⟩) NB361_395.out _).trans (((cell_far (p := ⟨gb395, _, none⟩) NB361_395.out _).trans (((cell_far (p := ⟨gb395, _, none⟩) NB361_395.out _).trans (((cell_far (p := ⟨gb395, _, none⟩) NB361_395.out _).trans (hHeld.2.1)))))))))), ((cell_far (p := ⟨gb395, _, none⟩) NB361_395.out _).trans (((cell_far (p := ⟨gb395, _, none⟩) NB361_395.out _).trans (((cell_far (p := ⟨gb395, _, none⟩) NB361_395.out _).trans (((cell_far (p := ⟨gb395, _, none⟩) NB361_395.out _).trans (((cell_far (p := ⟨gb395, _, none⟩) NB361_395.out _).trans (hHeld.2.2))))))))))⟩ (fun hHeld => ?_)
    clear hK K
    refine pure_ (i := 9) (N := some 9) (v := ?_) (a' := ?_) #[tT,tT,tT,tT,tT,tT,tT,tT,tT,tT] rfl rfl (any_of HT_.out (by kernel_rfl)) (fun _ _ _ h => h) (Or.inl ⟨by rfl, ?_⟩) ?_ ?_
    rotate_left; (intro w'; go_simp; with_reducible rfl); rotate_left; (simp only [Act.put, List.setIfInBounds_toArray, List.set_cons_zero, List.set_cons_succ, i64_w, i32_w]; rfl)
    refine done_ (done_of HT_.out (by kernel_rfl)) ?_
    try go_wp2
    obtain ⟨w65, hw65_⟩ : ∃ w_ : World, w_ = (((((w57.setCell ⟨gb395, 0, none⟩ (.slice Ao58 t385.length co58)).setCell ⟨gb395, 1, none⟩ (.slice Ao60 t388.length co60)).setCell ⟨gb395, 2, none⟩ (.int .i64 t391)).setCell ⟨gb395, 3, none⟩ (.int .i64 t392)).setCell ⟨gb395, 4, none⟩ (.int .i64 t393)) := ⟨_, rfl⟩
    have n0_ : Aside0 (Kd.V k39 39 w65 w.heap.size (fun k_ => (P0_1_ k_ ∨ w.heap.size ≤ k_) ∧ some k_ ≠ (.slice Ao49 y379.length co49 : Value).ownBlock ∧ some k_ ≠ (v383 : Value).ownBlock ∧ some k_ ≠ (.slice Ao58 t385.length co58 : Value).ownBlock ∧ some k_ ≠ (.slice Ao60 t388.length co60 : Value).ownBlock ∧ k_ ≠ gb361 ∧ k_ ≠ gb365 ∧ k_ ≠ gb395) (.slice A0_1 l0_1.length c0_1) l0_1) := ⟨by rw [hw65_]; (with_reducible repeat (first | apply Kd.V_alloc | apply Kd.V_drewN | apply Kd.V_drew)); exact Kd.V_mono (Kd.V_far (p := ⟨gb395, 4, none⟩) (Kd.V_far (p := ⟨gb395, 3, none⟩) (Kd.V_far (p := ⟨gb395, 2, none⟩) (Kd.V_far (p := ⟨gb395, 1, none⟩) (Kd.V_far (p := ⟨gb395, 0, none⟩) (Kd.V_mono HO_362001.out (fun k_ hk => (⟨hk, hk.2.2.2.2.2.2.2⟩ : _ ∧ k_ ≠ gb395))) (fun _ hk => hk.2) (.slice Ao58 t385.length co58)) (fun _ hk => hk.2) (.slice Ao60 t388.length co60)) (fun _ hk => hk.2) (.int .i64 t391)) (fun _ hk => hk.2) (.int .i64 t392)) (fun _ hk => hk.2) (.int .i64 t393)) (fun _ hk => ⟨hk.1.1, hk.1.2.1, hk.1.2.2.1, hk.1.2.2.2.1, hk.1.2.2.2.2.1, hk.1.2.2.2.2.2.1, hk.1.2.2.2.2.2.2.1, hk.1.2.2.2.2.2.2.2⟩)⟩
    have n1_ : Aside0 (Kd.N k39 39 w65 w.heap.size (fun k_ => (P0_1_ k_ ∨ w.heap.size ≤ k_) ∧ some k_ ≠ (v383 : Value).ownBlock ∧ some k_ ≠ (.slice Ao58 t385.length co58 : Value).ownBlock ∧ some k_ ≠ (.slice Ao60 t388.length co60 : Value).ownBlock ∧ k_ ≠ gb361 ∧ k_ ≠ gb365 ∧ k_ ≠ gb395) (.slice Ao49 y379.length co49) y379) := ⟨by rw [hw65_]; (with_reducible repeat (first | apply Kd.N_alloc | apply Kd.N_drewN | apply Kd.N_drew)); exact Kd.N_mono (Kd.N_far (p := ⟨gb395, 4, none⟩) (Kd.N_far (p := ⟨gb395, 3, none⟩) (Kd.N_far (p := ⟨gb395, 2, none⟩) (Kd.N_far (p := ⟨gb395, 1, none⟩) (Kd.N_far (p := ⟨gb395, 0, none⟩) (Kd.N_mono HO381.out (fun k_ hk => (⟨hk, hk.2.2.2.2.2.2⟩ : _ ∧ k_ ≠ gb395))) (fun _ hk => hk.2) (.slice Ao58 t385.length co58)) (fun _ hk => hk.2) (.slice Ao60 t388.length co60)) (fun _ hk => hk.2) (.int .i64 t391)) (fun _ hk => hk.2) (.int .i64 t392)) (fun _ hk => hk.2) (.int .i64 t393)) (fun _ hk => ⟨hk.1.1, hk.1.2.1, hk.1.2.2.1, hk.1.2.2.2.1, hk.1.2.2.2.2.1, hk.1.2.2.2.2.2.1, hk.1.2.2.2.2.2.2⟩)⟩
    have n2_ : Aside0 (Kd.R (Kd.int .i64) 3 w65 w.heap.size (fun k_ => (w.heap.size ≤ k_) ∧ some k_ ≠ (.slice Ao58 t385.length co58 : Value).ownBlock ∧ some k_ ≠ (.slice Ao60 t388.length co60 : Value).ownBlock) v383 t382) := ⟨by rw [hw65_]; (with_reducible repeat (first | apply Kd.R_alloc | apply Kd.R_drewN | apply Kd.R_drew)); exact Kd.R_mono (Kd.R_far (p := ⟨gb395, 4, none⟩) (Kd.R_far (p := ⟨gb395, 3, none⟩) (Kd.R_far (p := ⟨gb395, 2, none⟩) (Kd.R_far (p := ⟨gb395, 1, none⟩) (Kd.R_far (p := ⟨gb395, 0, none⟩) (Kd.R_types HO384.out BK395.out (by decide)) (fun _ hk => hk.2) (.slice Ao58 t385.length co58)) (fun _ hk => hk.2) (.slice Ao60 t388.length co60)) (fun _ hk => hk.2) (.int .i64 t391)) (fun _ hk => hk.2) (.int .i64 t392)) (fun _ hk => hk.2) (.int .i64 t393)) (fun _ hk => ⟨hk.1.1, hk.1.2.1, hk.1.2.2⟩)⟩
    have n3_ : Aside0 (Kd.R (Kd.int .i64) 3 w65 w.heap.size (fun k_ => (w.heap.size ≤ k_) ∧ some k_ ≠ (v383 : Value).ownBlock ∧ some k_ ≠ (.slice Ao60 t388.length co60 : Value).ownBlock) (.slice Ao58 t385.length co58) t385) := ⟨by rw [hw65_]; (with_reducible repeat (first | apply Kd.R_alloc | apply Kd.R_drewN | apply Kd.R_drew)); exact Kd.R_mono (Kd.R_far (p := ⟨gb395, 4, none⟩) (Kd.R_far (p := ⟨gb395, 3, none⟩) (Kd.R_far (p := ⟨gb395, 2, none⟩) (Kd.R_far (p := ⟨gb395, 1, none⟩) (Kd.R_far (p := ⟨gb395, 0, none⟩) (Kd.R_types HO387.out BK395.out (by decide)) (fun _ hk => hk.2) (.slice Ao58 t385.length co58)) (fun _ hk => hk.2) (.slice Ao60 t388.length co60)) (fun _ hk => hk.2) (.int .i64 t391)) (fun _ hk => hk.2) (.int .i64 t392)) (fun _ hk => hk.2) (.int .i64 t393)) (fun _ hk => ⟨hk.1.1, hk.1.2.1, hk.1.2.2⟩)⟩
    have n4_ : Aside0 (Kd.R (Kd.int .i64) 3 w65 w.heap.size (fun k_ => (w.heap.size ≤ k_) ∧ some k_ ≠ (v383 : Value).ownBlock ∧ some k_ ≠ (.slice Ao58 t385.length co58 : Value).ownBlock) (.slice Ao60 t388.length co60) t388) := ⟨by rw [hw65_]; (with_reducible repeat (first | apply Kd.R_alloc | apply Kd.R_drewN | apply Kd.R_drew)); exact Kd.R_mono (Kd.R_far (p := ⟨gb395, 4, none⟩) (Kd.R_far (p := ⟨gb395, 3, none⟩) (Kd.R_far (p := ⟨gb395, 2, none⟩) (Kd.R_far (p := ⟨gb395, 1, none⟩) (Kd.R_far (p := ⟨gb395, 0, none⟩) (Kd.R_types HO390.out BK395.out (by decide)) (fun _ hk => hk.2) (.slice Ao58 t385.length co58)) (fun _ hk => hk.2) (.slice Ao60 t388.length co60)) (fun _ hk => hk.2) (.int .i64 t391)) (fun _ hk => hk.2) (.int .i64 t392)) (fun _ hk => hk.2) (.int .i64 t393)) (fun _ hk => ⟨hk.1.1, hk.1.2.1, hk.1.2.2⟩)⟩
    have n5_ : Aside0 (w65.heap[gb361]? = some (.cells #[.slice A0_0 l0_0.length c0_0, .slice A0_1 l0_1.length c0_1, .int .i64 a0_2] 25 (0, 0))) := ⟨by rw [hw65_]; apply_rules (transparency := .reducible) only [blk_drewN, blk_drew, blk_alloc, blk_far, NB361_395.out, BK361.out]⟩
    have n6_ : Aside0 (w65.heap[gb365]? = some (.cells #[.slice A0_0 l0_0.length c0_0, .slice Ao49 y379.length co49, .int .i64 a0_2] 25 (0, 0))) := ⟨by rw [hw65_]; apply_rules (transparency := .reducible) only [blk_drewN, blk_drew, blk_alloc, blk_far, NB365_395.out, BK365.out]⟩
    have n7_ : Aside0 (w65.heap[gb395]? = some (.cells #[.slice Ao58 t385.length co58, .slice Ao60 t388.length co60, .int .i64 t391, .int .i64 t392, .int .i64 t393] 30 (0, 0))) := ⟨by rw [hw65_]; (try apply_rules (transparency := .reducible) only [blk_drewN, blk_drew, blk_alloc]); refine blk_put (cs := #[.slice Ao58 t385.length co58, .slice Ao60 t388.length co60, .int .i64 t391, .int .i64 t392, .int .i64 0]) ?_ 4 _ rfl; (try apply_rules (transparency := .reducible) only [blk_drewN, blk_drew, blk_alloc]); refine blk_put (cs := #[.slice Ao58 t385.length co58, .slice Ao60 t388.length co60, .int .i64 t391, .int .i64 0, .int .i64 0]) ?_ 3 _ rfl; (try apply_rules (transparency := .reducible) only [blk_drewN, blk_drew, blk_alloc]); refine blk_put (cs := #[.slice Ao58 t385.length co58, .slice Ao60 t388.length co60, .int .i64 0, .int .i64 0, .int .i64 0]) ?_ 2 _ rfl; (try apply_rules (transparency := .reducible) only [blk_drewN, blk_drew, blk_alloc]); refine blk_put (cs := #[.slice Ao58 t385.length co58, .slice none 0 0, .int .i64 0, .int .i64 0, .int .i64 0]) ?_ 1 _ rfl; (try apply_rules (transparency := .reducible) only [blk_drewN, blk_drew, blk_alloc]); refine blk_put (cs := #[.slice none 0 0, .slice none 0 0, .int .i64 0, .int .i64 0, .int .i64 0]) ?_ 0 _ rfl; (try apply_rules (transparency := .reducible) only [blk_drewN, blk_drew, blk_alloc]); exact BK395.out⟩
    have n8_ : Aside0 (Below w.heap.size w w65) := ⟨by rw [hw65_]; repeat (first | (with_reducible first | exact HB.out | apply below_alloc | apply pw_below_drewN | apply below_drew1 | refine below_set ?_ GE361.out | refine below_set ?_ GE365.out | refine below_set ?_ GE395.out) | exact HB.out)⟩
    (try clear HO_362001)
    (try clear HO381)
    (try clear HO384)
    (try clear HO387)
    (try clear HO390)
    (try clear BK361)
    (try clear BK365)
    (try clear BK395)
    (try clear HB)
    (try rw [← hw65_])
    clear hw65_; have HO_362001 := n0_; have HO381 := n1_; have HO384 := n2_; have HO387 := n3_; have HO390 := n4_; have BK361 := n5_; have BK365 := n6_; have BK395 := n7_; have HB := n8_; clear n0_ n1_ n2_ n3_ n4_ n5_ n6_ n7_ n8_
    have n0_ := Aside0.mk (Kd.V_drew HO_362001.out)
    have n1_ := Aside0.mk (Kd.N_drew HO381.out)
    have n2_ := Aside0.mk (Kd.R_drew HO387.out)
    have n3_ := Aside0.mk (Kd.R_drew HO390.out)
    have n4_ := Aside0.mk (blk_drew BK361.out)
    have n5_ := Aside0.mk (blk_drew BK365.out)
    have n6_ := Aside0.mk (blk_drew BK395.out)
    have n7_ := Aside0.mk (below_drew1 HB.out)
    clear HO_362001 HO381 HO387 HO390 BK361 BK365 BK395 HB; have HO_362001 := n0_; have HO381 := n1_; have HO387 := n2_; have HO390 := n3_; have BK361 := n4_; have BK365 := n5_; have BK395 := n6_; have HB := n7_; clear n0_ n1_ n2_ n3_ n4_ n5_ n6_ n7_
    refine start_ (n := 10) (S := fun w' => w'.cell? ⟨gb365, 0, none⟩ = some (.slice A0_0 l0_0.length c0_0) ∧ w'.cell? ⟨gb365, 1, none⟩ = some (.slice Ao49 y379.length co49) ∧ w'.cell? ⟨gb365, 2, none⟩ = some (.int .i64 a0_2)) (ds := []) #[fF,fF,fF,fF,fF,fF,fF,fF,fF,fF] (by kernel_rfl) rfl rfl ⟨(blk_cell BK365.out 0).trans rfl, (blk_cell BK365.out 1).trans rfl, (blk_cell BK365.out 2).trans rfl⟩ (fun hHeld => ?_); refine with_tabW splicelaw12_PlaceMore.tab6 splicelaw12_PlaceMore.bits6 (fun HT_ HW_ => ?_)
    generalize w65.drew = w66 at HO_362001 HO381 HO387 HO390 BK361 BK365 BK395 HB HO384 hHeld ⊢
    refine take_ (i := 0) (N := some 52) (v := ?_) (a' := ?_) #[tT,fF,fF,fF,fF,fF,fF,fF,fF,fF] rfl rfl (take_ofW HT_.out HW_.out (by kernel_rfl)) (fun _ _ _ h => h) (Or.inl ⟨by rfl, ?_⟩) hHeld ?_ ?_
    rotate_left; (rintro w' ⟨s0, s1, s2⟩; go_simp; with_reducible rfl); rotate_left; (simp only [Act.put, List.setIfInBounds_toArray, List.set_cons_zero, List.set_cons_succ, i64_w, i32_w]; rfl)
    refine take_ (i := 1) (N := some 53) (v := ?_) (a' := ?_) #[tT,tT,fF,fF,fF,fF,fF,fF,fF,fF] rfl rfl (take_ofW HT_.out HW_.out (by kernel_rfl)) (fun _ _ _ h => h) (Or.inl ⟨by rfl, ?_⟩) hHeld ?_ ?_
    rotate_left; (rintro w' ⟨s0, s1, s2⟩; go_simp; with_reducible rfl); rotate_left; (simp only [Act.put, List.setIfInBounds_toArray, List.set_cons_zero, List.set_cons_succ, i64_w, i32_w]; rfl)
    refine join_ (σ := Value × Value × Value × Nat) 2 #[tT,tT,tT,tT,tT,tT,tT,tT,fF,fF] (fun s_ => [(54, s_.1), (55, .tuple #[.agg #[s_.2.1, s_.2.2.1, .int .i64 t405, .int .i64 t406, .int .i64 t407], .int .i64 t408]), (10, .pointer (some ⟨s_.2.2.2, 0, none⟩)), (51, .tuple #[.agg #[s_.2.1, s_.2.2.1, .int .i64 t405, .int .i64 t406, .int .i64 t407], .int .i64 t408]), (56, .agg #[s_.2.1, s_.2.2.1, .int .i64 t405, .int .i64 t406, .int .i64 t407]), (57, .int .i64 t408)]) (fun s_ w' => (w'.cell? ⟨gb365, 0, none⟩ = some (.slice A0_0 l0_0.length c0_0) ∧ w'.cell? ⟨gb365, 1, none⟩ = some (.slice Ao49 y379.length co49) ∧ w'.cell? ⟨gb365, 2, none⟩ = some (.int .i64 a0_2)) ∧ (Kd.N k39 39 w' w.heap.size (fun k_ => (P0_1_ k_ ∨ w.heap.size ≤ k_) ∧ some k_ ≠ (.slice Ao58 t385.length co58 : Value).ownBlock ∧ some k_ ≠ (.slice Ao60 t388.length co60 : Value).ownBlock ∧ some k_ ≠ (s_.1 : Value).ownBlock ∧ some k_ ≠ (s_.2.1 : Value).ownBlock ∧ some k_ ≠ (s_.2.2.1 : Value).ownBlock ∧ k_ ≠ gb361 ∧ k_ ≠ gb365 ∧ k_ ≠ gb395 ∧ k_ ≠ s_.2.2.2) (.slice Ao49 y379.length co49) y379) ∧ (Kd.R (Kd.int .i64) 3 w' w.heap.size (fun k_ => (w.heap.size ≤ k_) ∧ some k_ ≠ (.slice Ao60 t388.length co60 : Value).ownBlock ∧ some k_ ≠ (s_.1 : Value).ownBlock ∧ some k_ ≠ (s_.2.1 : Value).ownBlock ∧ some k_ ≠ (s_.2.2.1 : Value).ownBlock) (.slice Ao58 t385.length co58) t385) ∧ (Kd.R (Kd.int .i64) 3 w' w.heap.size (fun k_ => (w.heap.size ≤ k_) ∧ some k_ ≠ (.slice Ao58 t385.length co58 : Value).ownBlock ∧ some k_ ≠ (s_.1 : Value).ownBlock ∧ some k_ ≠ (s_.2.1 : Value).ownBlock ∧ some k_ ≠ (s_.2.2.1 : Value).ownBlock) (.slice Ao60 t388.length co60) t388) ∧ (Kd.R (Kd.int .i64) 3 w' w.heap.size (fun k_ => (w.heap.size ≤ k_) ∧ some k_ ≠ (.slice Ao58 t385.length co58 : Value).ownBlock ∧ some k_ ≠ (.slice Ao60 t388.length co60 : Value).ownBlock ∧ some k_ ≠ (s_.2.1 : Value).ownBlock ∧ some k_ ≠ (s_.2.2.1 : Value).ownBlock) s_.1 t396) ∧ (Kd.R (Kd.int .i64) 3 w' w.heap.size (fun k_ => (w.heap.size ≤ k_) ∧ some k_ ≠ (.slice Ao58 t385.length co58 : Value).ownBlock ∧ some k_ ≠ (.slice Ao60 t388.length co60 : Value).ownBlock ∧ some k_ ≠ (s_.1 : Value).ownBlock ∧ some k_ ≠ (s_.2.2.1 : Value).ownBlock) s_.2.1 t399) ∧ (Kd.R (Kd.int .i64) 3 w' w.heap.size (fun k_ => (w.heap.size ≤ k_) ∧ some k_ ≠ (.slice Ao58 t385.length co58 : Value).ownBlock ∧ some k_ ≠ (.slice Ao60 t388.length co60 : Value).ownBlock ∧ some k_ ≠ (s_.1 : Value).ownBlock ∧ some k_ ≠ (s_.2.1 : Value).ownBlock) s_.2.2.1 t402) ∧ (Kd.V k39 39 w' w.heap.size (fun k_ => (P0_1_ k_ ∨ w.heap.size ≤ k_) ∧ some k_ ≠ (.slice Ao49 y379.length co49 : Value).ownBlock ∧ some k_ ≠ (.slice Ao58 t385.length co58 : Value).ownBlock ∧ some k_ ≠ (.slice Ao60 t388.length co60 : Value).ownBlock ∧ some k_ ≠ (s_.1 : Value).ownBlock ∧ some k_ ≠ (s_.2.1 : Value).ownBlock ∧ some k_ ≠ (s_.2.2.1 : Value).ownBlock ∧ k_ ≠ gb361 ∧ k_ ≠ gb365 ∧ k_ ≠ gb395 ∧ k_ ≠ s_.2.2.2) (.slice A0_1 l0_1.length c0_1) l0_1) ∧ (w'.heap[gb361]? = some (.cells #[.slice A0_0 l0_0.length c0_0, .slice A0_1 l0_1.length c0_1, .int .i64 a0_2] 25 (0, 0))) ∧ (w'.heap[gb365]? = some (.cells #[.slice A0_0 l0_0.length c0_0, .slice Ao49 y379.length co49, .int .i64 a0_2] 25 (0, 0))) ∧ (w'.heap[gb395]? = some (.cells #[.slice Ao58 t385.length co58, .slice Ao60 t388.length co60, .int .i64 t391, .int .i64 t392, .int .i64 t393] 30 (0, 0))) ∧ (w'.heap[s_.2.2.2]? = some (.cells #[.slice none 0 0, .slice none 0 0, .int .i64 0, .int .i64 0, .int .i64 0] 30 (0, 0))) ∧ (w.heap.size ≤ s_.2.2.2) ∧ (w.heap.size ≤ s_.2.2.2) ∧ (gb361 ≠ s_.2.2.2) ∧ (s_.2.2.2 ≠ gb361) ∧ (gb365 ≠ s_.2.2.2) ∧ (s_.2.2.2 ≠ gb365) ∧ (gb395 ≠ s_.2.2.2) ∧ (s_.2.2.2 ≠ gb395) ∧ (Below w.heap.size w w')) ?_ ?_
    rotate_left
    ·
     intro hCont
     refine two_ (i := 2) (j := 7) (Ni := some 54) (Nj := some 10) #[tT,tT,tT,fF,fF,fF,fF,fF,fF,fF] #[tT,tT,fF,fF,fF,fF,fF,tT,fF,fF] rfl rfl rfl rfl (two_of HT_.out (by kernel_rfl)) (by decide) (by decide) (fun K hK => ?_) (fun K hK => ?_)
     ·
      refine goes_ Try.func13 (by kernel_rfl) rfl #[.agg #[.slice A0_0 l0_0.length c0_0, .slice Ao49 y379.length co49, .int .i64 a0_2]] (by rfl) rfl rfl (by (try simp only [List.map_toArray, List.map_cons, List.map_nil]); first | done | rfl | (simp only [List.length_drop, List.length_take]; rfl)) ?_
      with_reducible refine (place_All.calls kj3 _ _ l0_0 _ _ y379 a0_2 t396 _ ?side1 ?side2 ?side3 ?side4 A28.out).mono ?_
      (case side1 => repeat (first | exact (Kd.C_below HR0_0.out HB.out) | (with_reducible refine Kd.C_alloc ?_ _) | (with_reducible refine Kd.C_drewN ?_ _) | (with_reducible refine Kd.C_drew ?_)))
      (case side2 => exact HC0_0.out)
      (case side3 => repeat (first | exact (Kd.N_reads' HO381.out).2.2 | (with_reducible refine Kd.C_alloc ?_ _) | (with_reducible refine Kd.C_drewN ?_ _) | (with_reducible refine Kd.C_drew ?_)))
      (case side4 => exact (Kd.N_reads' HO381.out).2.1)
      rintro e w67 ⟨v397, rfl, ho0, hb⟩
      refine ⟨_, rfl, ?_⟩
      have n0_ := Aside0.mk (Kd.V_elder' HO_362001.out (Kd.R_base ho0) hb)
      have n1_ := Aside0.mk (Kd.N_elder' HO381.out (Kd.R_base ho0) hb)
      have n2_ := Aside0.mk (Kd.R_elder' HO387.out (Kd.R_base ho0) hb)
      have n3_ := Aside0.mk (Kd.R_elder' HO390.out (Kd.R_base ho0) hb)
      have n4_ := Aside0.mk (Kd.R_lower (Kd.R_new' (Kd.R_new' (Kd.R_newM (M := fun k_ => (w.heap.size ≤ k_)) ho0 (below_size (by apply_rules (transparency := .reducible) only [HB.out, below_alloc, pw_below_drewN, below_drew1, below_set, GE361.out, GE365.out, GE395.out])) (fun k_ h_ => h_)) (Kd.R_lt HO387.out)) (Kd.R_lt HO390.out)) (below_size (by apply_rules (transparency := .reducible) only [HB.out, below_alloc, pw_below_drewN, below_drew1, below_set, GE361.out, GE365.out, GE395.out])))
      have n5_ := Aside0.mk (blk_below (g := gb361) (o := _) BK361.out hb)
      have n6_ := Aside0.mk (blk_below (g := gb365) (o := _) BK365.out hb)
      have n7_ := Aside0.mk (blk_below (g := gb395) (o := _) BK395.out hb)
      have n8_ := Aside0.mk (below_step (by apply_rules (transparency := .reducible) only [HB.out, below_alloc, pw_below_drewN, below_drew1, below_set, GE361.out, GE365.out, GE395.out]) hb)
      clear HO_362001 HO381 HO387 HO390 BK361 BK365 BK395 HB; have HO_362001 := n0_; have HO381 := n1_; have HO387 := n2_; have HO390 := n3_; have HO398 := n4_; have BK361 := n5_; have BK365 := n6_; have BK395 := n7_; have HB := n8_; clear n0_ n1_ n2_ n3_ n4_ n5_ n6_ n7_ n8_
      (try clear hb)
      (try clear hb2)
      (try clear hk)
      (try clear hi)
      (try clear ho0)
      obtain ⟨Ao68, co68, eo68⟩ := Kd.R_slice HO398.out
      (first | subst eo68 | (injection eo68 with f1_ f2_ f3_; have f4_ := f1_.symm; have f5_ := f3_.symm; clear f1_ f2_ f3_; subst f4_; subst f5_))
      refine hK.out _ _ ⟨(blk_cell BK365.out 0).trans rfl, (blk_cell BK365.out 1).trans rfl, (blk_cell BK365.out 2).trans rfl⟩ (fun hHeld => ?_)
      clear hK K
      refine norm_ (a' := ?_) ?_ ?_
      rotate_left; (show Act.put _ (some 54) _ = _; simp only [Act.put, List.setIfInBounds_toArray, List.set_cons_zero, List.set_cons_succ, i64_w, i32_w]; rfl)
      refine two_ (i := 3) (j := 7) (Ni := some 55) (Nj := some 10) #[tT,tT,tT,tT,fF,fF,fF,fF,fF,fF] #[tT,tT,tT,fF,fF,fF,fF,tT,fF,fF] rfl rfl rfl rfl (two_of HT_.out (by kernel_rfl)) (by decide) (by decide) (fun K hK => ?_) (fun K hK => ?_)
      ·
       refine goes_ Try.func10 (by kernel_rfl) rfl #[.agg #[.slice A0_0 l0_0.length c0_0, .slice Ao49 y379.length co49, .int .i64 a0_2], .slice Ao68 t396.length co68] (by rfl) rfl rfl (by (try simp only [List.map_toArray, List.map_cons, List.map_nil]); first | done | rfl | (simp only [List.length_drop, List.length_take]; rfl)) ?_
       with_reducible refine (place_Plan.calls kj3 _ _ l0_0 _ _ y379 a0_2 _ _ t396 t399 t402 t405 t406 t407 t408 _ ?side1 ?side2 ?side3 ?side4 ?side5 ?side6 A29.out).mono ?_
       (case side1 => repeat (first | exact (Kd.C_below HR0_0.out HB.out) | (with_reducible refine Kd.C_alloc ?_ _) | (with_reducible refine Kd.C_drewN ?_ _) | (with_reducible refine Kd.C_drew ?_)))
       (case side2 => exact HC0_0.out)
       (case side3 => repeat (first | exact (Kd.N_reads' HO381.out).2.2 | (with_reducible refine Kd.C_alloc ?_ _) | (with_reducible refine Kd.C_drewN ?_ _) | (with_reducible refine Kd.C_drew ?_)))
       (case side4 => exact (Kd.N_reads' HO381.out).2.1)
       (case side5 => repeat (first | exact (Kd.R_reads' HO398.out).2.2 | (with_reducible refine Kd.C_alloc ?_ _) | (with_reducible refine Kd.C_drewN ?_ _) | (with_reducible refine Kd.C_drew ?_)))
       (case side6 => exact (Kd.R_reads' HO398.out).2.1)
       rintro e w69 ⟨v400, v403, rfl, ho0, ho1, hb⟩
       refine ⟨_, rfl, ?_⟩
       have n0_ := Aside0.mk (Kd.V_mono (Kd.V_told (Kd.V_told (Kd.V_old HO_362001.out hb) (Kd.R_base ho0)) (Kd.R_base ho1)) (fun _ h_ => h_.1))
       have n1_ := Aside0.mk (Kd.N_mono (Kd.N_told (Kd.N_told (Kd.N_old HO381.out hb) (Kd.R_base ho0)) (Kd.R_base ho1)) (fun _ h_ => h_.1))
       have n2_ := Aside0.mk (Kd.R_mono (Kd.R_told (Kd.R_told (Kd.R_old HO387.out hb) (Kd.R_base ho0)) (Kd.R_base ho1)) (fun _ h_ => h_.1))
       have n3_ := Aside0.mk (Kd.R_mono (Kd.R_told (Kd.R_told (Kd.R_old HO390.out hb) (Kd.R_base ho0)) (Kd.R_base ho1)) (fun _ h_ => h_.1))
       have n4_ := Aside0.mk (Kd.R_mono (Kd.R_told (Kd.R_told (Kd.R_old HO398.out hb) (Kd.R_base ho0)) (Kd.R_base ho1)) (fun _ h_ => h_.1))
       have n5_ := Aside0.mk (Kd.R_lower (Kd.R_new' (Kd.R_new' (Kd.R_new' (Kd.R_newM (M := fun k_ => (w.heap.size ≤ k_)) ho0 (below_size (by apply_rules (transparency := .reducible) only [HB.out, below_alloc, pw_below_drewN, below_drew1, below_set, GE361.out, GE365.out, GE395.out])) (fun k_ h_ => h_)) (Kd.R_lt HO387.out)) (Kd.R_lt HO390.out)) (Kd.R_lt HO398.out)) (below_size (by apply_rules (transparency := .reducible) only [HB.out, below_alloc, pw_below_drewN, below_drew1, below_set, GE361.out, GE365.out, GE395.out])))
       have n6_ := Aside0.mk (Kd.R_lower (Kd.R_new' (Kd.R_new' (Kd.R_new' (Kd.R_newM (M := fun k_ => (w.heap.size ≤ k_)) ho1 (below_size (by apply_rules (transparency := .reducible) only [HB.out, below_alloc, pw_below_drewN, below_drew1, below_set, GE361.out, GE365.out, GE395.out])) (fun k_ h_ => h_)) (Kd.R_lt HO387.out)) (Kd.R_lt HO390.out)) (Kd.R_lt HO398.out)) (below_size (by apply_rules (transparency := .reducible) only [HB.out, below_alloc, pw_below_drewN, below_drew1, below_set, GE361.out, GE365.out, GE395.out])))
       have n7_ := Aside0.mk (blk_below (g := gb361) (o := _) BK361.out hb)
       have n8_ := Aside0.mk (blk_below (g := gb365) (o := _) BK365.out hb)
       have n9_ := Aside0.mk (blk_below (g := gb395) (o := _) BK395.out hb)
       have n10_ := Aside0.mk (below_step (by apply_rules (transparency := .reducible) only [HB.out, below_alloc, pw_below_drewN, below_drew1, below_set, GE361.out, GE365.out, GE395.out]) hb)
       clear HO_362001 HO381 HO387 HO390 HO398 BK361 BK365 BK395 HB; have HO_362001 := n0_; have HO381 := n1_; have HO387 := n2_; have HO390 := n3_; have HO398 := n4_; have HO401 := n5_; have HO404 := n6_; have BK361 := n7_; have BK365 := n8_; have BK395 := n9_; have HB := n10_; clear n0_ n1_ n2_ n3_ n4_ n5_ n6_ n7_ n8_ n9_ n10_
       (try clear hb)
       (try clear hb2)
       (try clear hk)
       (try clear hi)
       (try clear ho0)
       (try clear ho1)
       refine hK.out _ _ ⟨(blk_cell BK365.out 0).trans rfl, (blk_cell BK365.out 1).trans rfl, (blk_cell BK365.out 2).trans rfl⟩ (fun hHeld => ?_)
       clear hK K
       refine norm_ (a' := ?_) ?_ ?_
       rotate_left; (show Act.put _ (some 55) _ = _; simp only [Act.put, List.setIfInBounds_toArray, List.set_cons_zero, List.set_cons_succ, i64_w, i32_w]; rfl)
       refine pure_ (i := 4) (N := some 51) (v := ?_) (a' := ?_) #[tT,tT,tT,tT,tT,fF,fF,fF,fF,fF] rfl rfl (any_of HT_.out (by kernel_rfl)) (fun _ _ _ h => h) (Or.inl ⟨by rfl, ?_⟩) ?_ ?_
       rotate_left; (intro w'; go_simp; with_reducible rfl); rotate_left; (simp only [Act.put, List.setIfInBounds_toArray, List.set_cons_zero, List.set_cons_succ, i64_w, i32_w]; rfl)
       refine pure_ (i := 5) (N := some 56) (v := ?_) (a' := ?_) #[tT,tT,tT,tT,tT,tT,fF,fF,fF,fF] rfl rfl (any_of HT_.out (by kernel_rfl)) (fun _ _ _ h => h) (Or.inl ⟨by rfl, ?_⟩) ?_ ?_
       rotate_left; (intro w'; go_simp; with_reducible rfl); rotate_left; (simp only [Act.put, List.setIfInBounds_toArray, List.set_cons_zero, List.set_cons_succ, i64_w, i32_w]; rfl)
       refine pure_ (i := 6) (N := some 57) (v := ?_) (a' := ?_) #[tT,tT,tT,tT,tT,tT,tT,fF,fF,fF] rfl rfl (any_of HT_.out (by kernel_rfl)) (fun _ _ _ h => h) (Or.inl ⟨by rfl, ?_⟩) ?_ ?_
       rotate_left; (intro w'; go_simp; with_reducible rfl); rotate_left; (simp only [Act.put, List.setIfInBounds_toArray, List.set_cons_zero, List.set_cons_succ, i64_w, i32_w]; rfl)
       refine one_ (i := 7) (N := some 10) #[tT,tT,tT,tT,tT,tT,tT,tT,fF,fF] rfl rfl (one_of HT_.out (by kernel_rfl)) (by decide) (fun K hK => ?_)
       refine box_step ?g4 (N := 10) ?hd (cs := #[.slice none 0 0, .slice none 0 0, .int .i64 0, .int .i64 0, .int .i64 0]) (t := 30) ?hr ?_; (case hd => rfl); (case g4 => rfl); (case hr => first | (go_simp; done) | (go_simp; rfl))
       intro gb409 hg w70 hbox hb
       have n0_ := Aside0.mk (Kd.V_below (Kd.V_elderB HO_362001.out gb409 (Nat.le_of_eq hg.symm)) hb)
       have n1_ := Aside0.mk (Kd.N_below (Kd.N_elderB HO381.out gb409 (Nat.le_of_eq hg.symm)) hb)
       have n2_ := Aside0.mk (Kd.R_below HO387.out hb)
       have n3_ := Aside0.mk (Kd.R_below HO390.out hb)
       have n4_ := Aside0.mk (Kd.R_below HO398.out hb)
       have n5_ := Aside0.mk (Kd.R_below HO401.out hb)
       have n6_ := Aside0.mk (Kd.R_below HO404.out hb)
       have n7_ := Aside0.mk (blk_below (g := gb361) (o := _) BK361.out hb)
       have n8_ := Aside0.mk (blk_below (g := gb365) (o := _) BK365.out hb)
       have n9_ := Aside0.mk (blk_below (g := gb395) (o := _) BK395.out hb)
       have n10_ := Aside0.mk (below_step (by apply_rules (transparency := .reducible) only [HB.out, below_alloc, pw_below_drewN, below_drew1, below_set, GE361.out, GE365.out, GE395.out]) hb)
       have n11_ := Aside0.mk (hbox)
       have n12_ := Aside0.mk ((by rw [hg]; exact (below_size (by apply_rules (transparency := .reducible) only [HB.out, below_alloc, pw_below_drewN, below_drew1, below_set, GE361.out, GE365.out, GE395.out])) : w.heap.size ≤ gb409))
       have n13_ := Aside0.mk ((by rw [hg]; exact (below_size (by apply_rules (transparency := .reducible) only [HB.out, below_alloc, pw_below_drewN, below_drew1, below_set, GE361.out, GE365.out, GE395.out])) : w.heap.size ≤ gb409))
       have n14_ := Aside0.mk ((by rw [hg]; exact Nat.ne_of_lt (blk_lt (g := gb361) (o := _) BK361.out) : gb361 ≠ gb409))
       have n15_ := Aside0.mk ((by rw [hg]; exact Nat.ne_of_gt (blk_lt (g := gb361) (o := _) BK361.out) : gb409 ≠ gb361))
       have n16_ := Aside0.mk ((by rw [hg]; exact Nat.ne_of_lt (blk_lt (g := gb365) (o := _) BK365.out) : gb365 ≠ gb409))
       have n17_ := Aside0.mk ((by rw [hg]; exact Nat.ne_of_gt (blk_lt (g := gb365) (o := _) BK365.out) : gb409 ≠ gb365))
       have n18_ := Aside0.mk ((by rw [hg]; exact Nat.ne_of_lt (blk_lt (g := gb395) (o := _) BK395.out) : gb395 ≠ gb409))
       have n19_ := Aside0.mk ((by rw [hg]; exact Nat.ne_of_gt (blk_lt (g := gb395) (o := _) BK395.out) : gb409 ≠ gb395))
       clear HO_362001 HO381 HO387 HO390 HO398 HO401 HO404 BK361 BK365 BK395 HB; have HO_362001 := n0_; have HO381 := n1_; have HO387 := n2_; have HO390 := n3_; have HO398 := n4_; have HO401 := n5_; have HO404 := n6_; have BK361 := n7_; have BK365 := n8_; have BK395 := n9_; have HB := n10_; have BK409 := n11_; have GW409 := n12_; have GE409 := n13_; have NB361_409 := n14_; have NB409_361 := n15_; have NB365_409 := n16_; have NB409_365 := n17_; have NB395_409 := n18_; have NB409_395 := n19_; clear n0_ n1_ n2_ n3_ n4_ n5_ n6_ n7_ n8_ n9_ n10_ n11_ n12_ n13_ n14_ n15_ n16_ n17_ n18_ n19_
       clear hb hbox hg
       refine hK.out _ _ ⟨(blk_cell BK365.out 0).trans rfl, (blk_cell BK365.out 1).trans rfl, (blk_cell BK365.out 2).trans rfl⟩ (fun hHeld => ?_)
       clear hK K
       refine norm_ (a' := ?_) ?_ ?_
       rotate_left; (show Act.put _ (some 10) _ = _; simp only [Act.put, List.setIfInBounds_toArray, List.set_cons_zero, List.set_cons_succ, i64_w, i32_w]; rfl)
       exact norm_ (by simp only [putAll, Act.put, List.setIfInBounds_toArray, List.set_cons_zero, List.set_cons_succ]) (hCont (.slice Ao68 t396.length co68, v400, v403, gb409) _ ⟨hHeld, (Kd.N_mono HO381.out (fun _ hk => ⟨hk.1.1.1.1.1, hk.1.1.1.1.2.2.1, hk.1.1.1.1.2.2.2.1, hk.1.1.1.2, hk.1.1.2, hk.1.2, hk.1.1.1.1.2.2.2.2.1, hk.1.1.1.1.2.2.2.2.2.1, hk.1.1.1.1.2.2.2.2.2.2, hk.2⟩)), (Kd.R_mono HO387.out (fun _ hk => ⟨hk.1.1.1.1, hk.1.1.1.2.2, hk.1.1.2, hk.1.2, hk.2⟩)), (Kd.R_mono HO390.out (fun _ hk => ⟨hk.1.1.1.1, hk.1.1.1.2.2, hk.1.1.2, hk.1.2, hk.2⟩)), (Kd.R_mono HO398.out (fun _ hk => ⟨hk.1.1.1.1.1, hk.1.1.1.2, hk.1.1.2, hk.1.2, hk.2⟩)), (Kd.R_mono HO401.out (fun _ hk => ⟨hk.1.1.1.1, hk.1.1.2, hk.1.2, hk.2, hk.1.1.1.2⟩)), (Kd.R_mono HO404.out (fun _ hk => ⟨hk.1.1.1.1, hk.1.1.2, hk.1.2, hk.2, hk.1.1.1.2⟩)), (Kd.V_mono HO_362001.out (fun _ hk => ⟨hk.1.1.1.1.1, hk.1.1.1.1.2.1, hk.1.1.1.1.2.2.2.1, hk.1.1.1.1.2.2.2.2.1, hk.1.1.1.2, hk.1.1.2, hk.1.2, hk.1.1.1.1.2.2.2.2.2.1, hk.1.1.1.1.2.2.2.2.2.2.1, hk.1.1.1.1.2.2.2.2.2.2.2, hk.2⟩)), BK361.out, BK365.out, BK395.out, BK409.out, GW409.out, GE409.out, NB361_409.out, NB409_361.out, NB365_409.out, NB409_365.out, NB395_409.out, NB409_395.out, (by apply_rules (transparency := .reducible) only [HB.out, below_alloc, pw_below_drewN, below_drew1, below_set, GE361.out, GE365.out, GE395.out, GE409.out])⟩)
      ·
       refine box_step ?g5 (N := 10) ?hd (cs := #[.slice none 0 0, .slice none 0 0, .int .i64 0, .int .i64 0, .int .i64 0]) (t := 30) ?hr ?_; (case hd => rfl); (case g5 => rfl); (case hr => first | (go_simp; done) | (go_simp; rfl))
       intro gb409 hg w68 hbox hb
       have n0_ := Aside0.mk (Kd.V_below (Kd.V_elderB HO_362001.out gb409 (Nat.le_of_eq hg.symm)) hb)
       have n1_ := Aside0.mk (Kd.N_below (Kd.N_elderB HO381.out gb409 (Nat.le_of_eq hg.symm)) hb)
       have n2_ := Aside0.mk (Kd.R_below HO387.out hb)
       have n3_ := Aside0.mk (Kd.R_below HO390.out hb)
       have n4_ := Aside0.mk (Kd.R_below HO398.out hb)
       have n5_ := Aside0.mk (blk_below (g := gb361) (o := _) BK361.out hb)
       have n6_ := Aside0.mk (blk_below (g := gb365) (o := _) BK365.out hb)
       have n7_ := Aside0.mk (blk_below (g := gb395) (o := _) BK395.out hb)
       have n8_ := Aside0.mk (below_step (by apply_rules (transparency := .reducible) only [HB.out, below_alloc, pw_below_drewN, below_drew1, below_set, GE361.out, GE365.out, GE395.out]) hb)
       have n9_ := Aside0.mk (hbox)
       have n10_ := Aside0.mk ((by rw [hg]; exact (below_size (by apply_rules (transparency := .reducible) only [HB.out, below_alloc, pw_below_drewN, below_drew1, below_set, GE361.out, GE365.out, GE395.out])) : w.heap.size ≤ gb409))
       have n11_ := Aside0.mk ((by rw [hg]; exact (below_size (by apply_rules (transparency := .reducible) only [HB.out, below_alloc, pw_below_drewN, below_drew1, below_set, GE361.out, GE365.out, GE395.out])) : w.heap.size ≤ gb409))
       have n12_ := Aside0.mk ((by rw [hg]; exact Nat.ne_of_lt (blk_lt (g := gb361) (o := _) BK361.out) : gb361 ≠ gb409))
       have n13_ := Aside0.mk ((by rw [hg]; exact Nat.ne_of_gt (blk_lt (g := gb361) (o := _) BK361.out) : gb409 ≠ gb361))
       have n14_ := Aside0.mk ((by rw [hg]; exact Nat.ne_of_lt (blk_lt (g := gb365) (o := _) BK365.out) : gb365 ≠ gb409))
       have n15_ := Aside0.mk ((by rw [hg]; exact Nat.ne_of_gt (blk_lt (g := gb365) (o := _) BK365.out) : gb409 ≠ gb365))
       have n16_ := Aside0.mk ((by rw [hg]; exact Nat.ne_of_lt (blk_lt (g := gb395) (o := _) BK395.out) : gb395 ≠ gb409))
       have n17_ := Aside0.mk ((by rw [hg]; exact Nat.ne_of_gt (blk_lt (g := gb395) (o := _) BK395.out) : gb409 ≠ gb395))
       clear HO_362001 HO381 HO387 HO390 HO398 BK361 BK365 BK395 HB; have HO_362001 := n0_; have HO381 := n1_; have HO387 := n2_; have HO390 := n3_; have HO398 := n4_; have BK361 := n5_; have BK365 := n6_; have BK395 := n7_; have HB := n8_; have BK409 := n9_; have GW409 := n10_; have GE409 := n11_; have NB361_409 := n12_; have NB409_361 := n13_; have NB365_409 := n14_; have NB409_365 := n15_; have NB395_409 := n16_; have NB409_395 := n17_; clear n0_ n1_ n2_ n3_ n4_ n5_ n6_ n7_ n8_ n9_ n10_ n11_ n12_ n13_ n14_ n15_ n16_ n17_
       clear hb hbox hg
       obtain ⟨Ao69, co69, eo69⟩ := Kd.R_slice HO398.out
       (first | subst eo69 | (injection eo69 with f1_ f2_ f3_; have f4_ := f1_.symm; have f5_ := f3_.symm; clear f1_ f2_ f3_; subst f4_; subst f5_))
       refine hK.out _ _ ⟨(blk_cell BK365.out 0).trans rfl, (blk_cell BK365.out 1).trans rfl, (blk_cell BK365.out 2).trans rfl⟩ (fun hHeld => ?_)
       clear hK K
       refine norm_ (a' := ?_) ?_ ?_
       rotate_left; (show Act.put _ (some 10) _ = _; simp only [Act.put, List.setIfInBounds_toArray, List.set_cons_zero, List.set_cons_succ, i64_w, i32_w]; rfl)
       refine one_ (i := 3) (N := some 55) #[tT,tT,tT,tT,fF,fF,fF,tT,fF,fF] rfl rfl (one_of HT_.out (by kernel_rfl)) (by decide) (fun K hK => ?_)
       refine goes_ Try.func10 (by kernel_rfl) rfl #[.agg #[.slice A0_0 l0_0.length c0_0, .slice Ao49 y379.length co49, .int .i64 a0_2], .slice Ao69 t396.length co69] (by rfl) rfl rfl (by (try simp only [List.map_toArray, List.map_cons, List.map_nil]); first | done | rfl | (simp only [List.length_drop, List.length_take]; rfl)) ?_
       with_reducible refine (place_Plan.calls kj3 _ _ l0_0 _ _ y379 a0_2 _ _ t396 t399 t402 t405 t406 t407 t408 _ ?side1 ?side2 ?side3 ?side4 ?side5 ?side6 A29.out).mono ?_
       (case side1 => repeat (first | exact (Kd.C_below HR0_0.out HB.out) | (with_reducible refine Kd.C_alloc ?_ _) | (with_reducible refine Kd.C_drewN ?_ _) | (with_reducible refine Kd.C_drew ?_)))
       (case side2 => exact HC0_0.out)
       (case side3 => repeat (first | exact (Kd.N_reads' HO381.out).2.2 | (with_reducible refine Kd.C_alloc ?_ _) | (with_reducible refine Kd.C_drewN ?_ _) | (with_reducible refine Kd.C_drew ?_)))
       (case side4 => exact (Kd.N_reads' HO381.out).2.1)
       (case side5 => repeat (first | exact (Kd.R_reads' HO398.out).2.2 | (with_reducible refine Kd.C_alloc ?_ _) | (with_reducible refine Kd.C_drewN ?_ _) | (with_reducible refine Kd.C_drew ?_)))
       (case side6 => exact (Kd.R_reads' HO398.out).2.1)
       rintro e w70 ⟨v400, v403, rfl, ho0, ho1, hb⟩
       refine ⟨_, rfl, ?_⟩
       have n0_ := Aside0.mk (Kd.V_mono (Kd.V_told (Kd.V_told (Kd.V_old HO_362001.out hb) (Kd.R_base ho0)) (Kd.R_base ho1)) (fun _ h_ => h_.1))
       have n1_ := Aside0.mk (Kd.N_mono (Kd.N_told (Kd.N_told (Kd.N_old HO381.out hb) (Kd.R_base ho0)) (Kd.R_base ho1)) (fun _ h_ => h_.1))
       have n2_ := Aside0.mk (Kd.R_mono (Kd.R_told (Kd.R_told (Kd.R_old HO387.out hb) (Kd.R_base ho0)) (Kd.R_base ho1)) (fun _ h_ => h_.1))
       have n3_ := Aside0.mk (Kd.R_mono (Kd.R_told (Kd.R_told (Kd.R_old HO390.out hb) (Kd.R_base ho0)) (Kd.R_base ho1)) (fun _ h_ => h_.1))
       have n4_ := Aside0.mk (Kd.R_mono (Kd.R_told (Kd.R_told (Kd.R_old HO398.out hb) (Kd.R_base ho0)) (Kd.R_base ho1)) (fun _ h_ => h_.1))
       have n5_ := Aside0.mk (Kd.R_lower (Kd.R_new' (Kd.R_new' (Kd.R_new' (Kd.R_newM (M := fun k_ => (w.heap.size ≤ k_)) ho0 (below_size (by apply_rules (transparency := .reducible) only [HB.out, below_alloc, pw_below_drewN, below_drew1, below_set, GE361.out, GE365.out, GE395.out, GE409.out])) (fun k_ h_ => h_)) (Kd.R_lt HO387.out)) (Kd.R_lt HO390.out)) (Kd.R_lt HO398.out)) (below_size (by apply_rules (transparency := .reducible) only [HB.out, below_alloc, pw_below_drewN, below_drew1, below_set, GE361.out, GE365.out, GE395.out, GE409.out])))
       have n6_ := Aside0.mk (Kd.R_lower (Kd.R_new' (Kd.R_new' (Kd.R_new' (Kd.R_newM (M := fun k_ => (w.heap.size ≤ k_)) ho1 (below_size (by apply_rules (transparency := .reducible) only [HB.out, below_alloc, pw_below_drewN, below_drew1, below_set, GE361.out, GE365.out, GE395.out, GE409.out])) (fun k_ h_ => h_)) (Kd.R_lt HO387.out)) (Kd.R_lt HO390.out)) (Kd.R_lt HO398.out)) (below_size (by apply_rules (transparency := .reducible) only [HB.out, below_alloc, pw_below_drewN, below_drew1, below_set, GE361.out, GE365.out, GE395.out, GE409.out])))
       have n7_ := Aside0.mk (blk_below (g := gb361) (o := _) BK361.out hb)
       have n8_ := Aside0.mk (blk_below (g := gb365) (o := _) BK365.out hb)
       have n9_ := Aside0.mk (blk_below (g := gb395) (o := _) BK395.out hb)
       have n10_ := Aside0.mk (blk_below (g := gb409) (o := _) BK409.out hb)
       have n11_ := Aside0.mk (below_step (by apply_rules (transparency := .reducible) only [HB.out, below_alloc, pw_below_drewN, below_drew1, below_set, GE361.out, GE365.out, GE395.out, GE409.out]) hb)
       clear HO_362001 HO381 HO387 HO390 HO398 BK361 BK365 BK395 BK409 HB; have HO_362001 := n0_; have HO381 := n1_; have HO387 := n2_; have HO390 := n3_; have HO398 := n4_; have HO401 := n5_; have HO404 := n6_; have BK361 := n7_; have BK365 := n8_; have BK395 := n9_; have BK409 := n10_; have HB := n11_; clear n0_ n1_ n2_ n3_ n4_ n5_ n6_ n7_ n8_ n9_ n10_ n11_
       (try clear hb)
       (try clear hb2)
       (try clear hk)
       (try clear hi)
       (try clear ho0)
       (try clear ho1)
       refine hK.out _ _ ⟨(blk_cell BK365.out 0).trans rfl, (blk_cell BK365.out 1).trans rfl, (blk_cell BK365.out 2).trans rfl⟩ (fun hHeld => ?_)
       clear hK K
       refine norm_ (a' := ?_) ?_ ?_
       rotate_left; (show Act.put _ (some 55) _ = _; simp only [Act.put, List.setIfInBounds_toArray, List.set_cons_zero, List.set_cons_succ, i64_w, i32_w]; rfl)
       refine pure_ (i := 4) (N := some 51) (v := ?_) (a' := ?_) #[tT,tT,tT,tT,tT,fF,fF,tT,fF,fF] rfl rfl (any_of HT_.out (by kernel_rfl)) (fun _ _ _ h => h) (Or.inl ⟨by rfl, ?_⟩) ?_ ?_
       rotate_left; (intro w'; go_simp; with_reducible rfl); rotate_left; (simp only [Act.put, List.setIfInBounds_toArray, List.set_cons_zero, List.set_cons_succ, i64_w, i32_w]; rfl)
       refine pure_ (i := 5) (N := some 56) (v := ?_) (a' := ?_) #[tT,tT,tT,tT,tT,tT,fF,tT,fF,fF] rfl rfl (any_of HT_.out (by kernel_rfl)) (fun _ _ _ h => h) (Or.inl ⟨by rfl, ?_⟩) ?_ ?_
       rotate_left; (intro w'; go_simp; with_reducible rfl); rotate_left; (simp only [Act.put, List.setIfInBounds_toArray, List.set_cons_zero, List.set_cons_succ, i64_w, i32_w]; rfl)
       refine pure_ (i := 6) (N := some 57) (v := ?_) (a' := ?_) #[tT,tT,tT,tT,tT,tT,tT,tT,fF,fF] rfl rfl (any_of HT_.out (by kernel_rfl)) (fun _ _ _ h => h) (Or.inl ⟨by rfl, ?_⟩) ?_ ?_
       rotate_left; (intro w'; go_simp; with_reducible rfl); rotate_left; (simp only [Act.put, List.setIfInBounds_toArray, List.set_cons_zero, List.set_cons_succ, i64_w, i32_w]; rfl)
       exact norm_ (by simp only [putAll, Act.put, List.setIfInBounds_toArray, List.set_cons_zero, List.set_cons_succ]) (hCont (.slice Ao69 t396.length co69, v400, v403, gb409) _ ⟨hHeld, (Kd.N_mono HO381.out (fun _ hk => ⟨hk.1.1.1.1.1, hk.1.1.1.1.2.2.1, hk.1.1.1.1.2.2.2.1, hk.1.1.1.2, hk.1.2, hk.2, hk.1.1.1.1.2.2.2.2.1, hk.1.1.1.1.2.2.2.2.2.1, hk.1.1.1.1.2.2.2.2.2.2, hk.1.1.2⟩)), (Kd.R_mono HO387.out (fun _ hk => ⟨hk.1.1.1.1, hk.1.1.1.2.2, hk.1.1.2, hk.1.2, hk.2⟩)), (Kd.R_mono HO390.out (fun _ hk => ⟨hk.1.1.1.1, hk.1.1.1.2.2, hk.1.1.2, hk.1.2, hk.2⟩)), (Kd.R_mono HO398.out (fun _ hk => ⟨hk.1.1.1.1.1, hk.1.1.1.2, hk.1.1.2, hk.1.2, hk.2⟩)), (Kd.R_mono HO401.out (fun _ hk => ⟨hk.1.1.1.1, hk.1.1.2, hk.1.2, hk.2, hk.1.1.1.2⟩)), (Kd.R_mono HO404.out (fun _ hk => ⟨hk.1.1.1.1, hk.1.1.2, hk.1.2, hk.2, hk.1.1.1.2⟩)), (Kd.V_mono HO_362001.out (fun _ hk => ⟨hk.1.1.1.1.1, hk.1.1.1.1.2.1, hk.1.1.1.1.2.2.2.1, hk.1.1.1.1.2.2.2.2.1, hk.1.1.1.2, hk.1.2, hk.2, hk.1.1.1.1.2.2.2.2.2.1, hk.1.1.1.1.2.2.2.2.2.2.1, hk.1.1.1.1.2.2.2.2.2.2.2, hk.1.1.2⟩)), BK361.out, BK365.out, BK395.out, BK409.out, GW409.out, GE409.out, NB361_409.out, NB409_361.out, NB365_409.out, NB409_365.out, NB395_409.out, NB409_395.out, (by apply_rules (transparency := .reducible) only [HB.out, below_alloc, pw_below_drewN, below_drew1, below_set, GE361.out, GE365.out, GE395.out, GE409.out])⟩)
     ·
      refine box_step ?g6 (N := 10) ?hd (cs := #[.slice none 0 0, .slice none 0 0, .int .i64 0, .int .i64 0, .int .i64 0]) (t := 30) ?hr ?_; (case hd => rfl); (case g6 => rfl); (case hr => first | (go_simp; done) | (go_simp; rfl))
      intro gb409 hg w67 hbox hb
      have n0_ := Aside0.mk (Kd.V_below (Kd.V_elderB HO_362001.out gb409 (Nat.le_of_eq hg.symm)) hb)
      have n1_ := Aside0.mk (Kd.N_below (Kd.N_elderB HO381.out gb409 (Nat.le_of_eq hg.symm)) hb)
      have n2_ := Aside0.mk (Kd.R_below HO387.out hb)
      have n3_ := Aside0.mk (Kd.R_below HO390.out hb)
      have n4_ := Aside0.mk (blk_below (g := gb361) (o := _) BK361.out hb)
      have n5_ := Aside0.mk (blk_below (g := gb365) (o := _) BK365.out hb)
      have n6_ := Aside0.mk (blk_below (g := gb395) (o := _) BK395.out hb)
      have n7_ := Aside0.mk (below_step (by apply_rules (transparency := .reducible) only [HB.out, below_alloc, pw_below_drewN, below_drew1, below_set, GE361.out, GE365.out, GE395.out]) hb)
      have n8_ := Aside0.mk (hbox)
      have n9_ := Aside0.mk ((by rw [hg]; exact (below_size (by apply_rules (transparency := .reducible) only [HB.out, below_alloc, pw_below_drewN, below_drew1, below_set, GE361.out, GE365.out, GE395.out])) : w.heap.size ≤ gb409))
      have n10_ := Aside0.mk ((by rw [hg]; exact (below_size (by apply_rules (transparency := .reducible) only [HB.out, below_alloc, pw_below_drewN, below_drew1, below_set, GE361.out, GE365.out, GE395.out])) : w.heap.size ≤ gb409))
      have n11_ := Aside0.mk ((by rw [hg]; exact Nat.ne_of_lt (blk_lt (g := gb361) (o := _) BK361.out) : gb361 ≠ gb409))
      have n12_ := Aside0.mk ((by rw [hg]; exact Nat.ne_of_gt (blk_lt (g := gb361) (o := _) BK361.out) : gb409 ≠ gb361))
      have n13_ := Aside0.mk ((by rw [hg]; exact Nat.ne_of_lt (blk_lt (g := gb365) (o := _) BK365.out) : gb365 ≠ gb409))
      have n14_ := Aside0.mk ((by rw [hg]; exact Nat.ne_of_gt (blk_lt (g := gb365) (o := _) BK365.out) : gb409 ≠ gb365))
      have n15_ := Aside0.mk ((by rw [hg]; exact Nat.ne_of_lt (blk_lt (g := gb395) (o := _) BK395.out) : gb395 ≠ gb409))
      have n16_ := Aside0.mk ((by rw [hg]; exact Nat.ne_of_gt (blk_lt (g := gb395) (o := _) BK395.out) : gb409 ≠ gb395))
      clear HO_362001 HO381 HO387 HO390 BK361 BK365 BK395 HB; have HO_362001 := n0_; have HO381 := n1_; have HO387 := n2_; have HO390 := n3_; have BK361 := n4_; have BK365 := n5_; have BK395 := n6_; have HB := n7_; have BK409 := n8_; have GW409 := n9_; have GE409 := n10_; have NB361_409 := n11_; have NB409_361 := n12_; have NB365_409 := n13_; have NB409_365 := n14_; have NB395_409 := n15_; have NB409_395 := n16_; clear n0_ n1_ n2_ n3_ n4_ n5_ n6_ n7_ n8_ n9_ n10_ n11_ n12_ n13_ n14_ n15_ n16_
      clear hb hbox hg
      refine hK.out _ _ ⟨(blk_cell BK365.out 0).trans rfl, (blk_cell BK365.out 1).trans rfl, (blk_cell BK365.out 2).trans rfl⟩ (fun hHeld => ?_)
      clear hK K
      refine norm_ (a' := ?_) ?_ ?_
      rotate_left; (show Act.put _ (some 10) _ = _; simp only [Act.put, List.setIfInBounds_toArray, List.set_cons_zero, List.set_cons_succ, i64_w, i32_w]; rfl)
      refine one_ (i := 2) (N := some 54) #[tT,tT,tT,fF,fF,fF,fF,tT,fF,fF] rfl rfl (one_of HT_.out (by kernel_rfl)) (by decide) (fun K hK => ?_)
      refine goes_ Try.func13 (by kernel_rfl) rfl #[.agg #[.slice A0_0 l0_0.length c0_0, .slice Ao49 y379.length co49, .int .i64 a0_2]] (by rfl) rfl rfl (by (try simp only [List.map_toArray, List.map_cons, List.map_nil]); first | done | rfl | (simp only [List.length_drop, List.length_take]; rfl)) ?_
      with_reducible refine (place_All.calls kj3 _ _ l0_0 _ _ y379 a0_2 t396 _ ?side1 ?side2 ?side3 ?side4 A28.out).mono ?_
      (case side1 => repeat (first | exact (Kd.C_below HR0_0.out HB.out) | (with_reducible refine Kd.C_alloc ?_ _) | (with_reducible refine Kd.C_drewN ?_ _) | (with_reducible refine Kd.C_drew ?_)))
      (case side2 => exact HC0_0.out)
      (case side3 => repeat (first | exact (Kd.N_reads' HO381.out).2.2 | (with_reducible refine Kd.C_alloc ?_ _) | (with_reducible refine Kd.C_drewN ?_ _) | (with_reducible refine Kd.C_drew ?_)))
      (case side4 => exact (Kd.N_reads' HO381.out).2.1)
      rintro e w68 ⟨v397, rfl, ho0, hb⟩
      refine ⟨_, rfl, ?_⟩
      have n0_ := Aside0.mk (Kd.V_elder' HO_362001.out (Kd.R_base ho0) hb)
      have n1_ := Aside0.mk (Kd.N_elder' HO381.out (Kd.R_base ho0) hb)
      have n2_ := Aside0.mk (Kd.R_elder' HO387.out (Kd.R_base ho0) hb)
      have n3_ := Aside0.mk (Kd.R_elder' HO390.out (Kd.R_base ho0) hb)
      have n4_ := Aside0.mk (Kd.R_lower (Kd.R_new' (Kd.R_new' (Kd.R_newM (M := fun k_ => (w.heap.size ≤ k_)) ho0 (below_size (by apply_rules (transparency := .reducible) only [HB.out, below_alloc, pw_below_drewN, below_drew1, below_set, GE361.out, GE365.out, GE395.out, GE409.out])) (fun k_ h_ => h_)) (Kd.R_lt HO387.out)) (Kd.R_lt HO390.out)) (below_size (by apply_rules (transparency := .reducible) only [HB.out, below_alloc, pw_below_drewN, below_drew1, below_set, GE361.out, GE365.out, GE395.out, GE409.out])))
      have n5_ := Aside0.mk (blk_below (g := gb361) (o := _) BK361.out hb)
      have n6_ := Aside0.mk (blk_below (g := gb365) (o := _) BK365.out hb)
      have n7_ := Aside0.mk (blk_below (g := gb395) (o := _) BK395.out hb)
      have n8_ := Aside0.mk (blk_below (g := gb409) (o := _) BK409.out hb)
      have n9_ := Aside0.mk (below_step (by apply_rules (transparency := .reducible) only [HB.out, below_alloc, pw_below_drewN, below_drew1, below_set, GE361.out, GE365.out, GE395.out, GE409.out]) hb)
      clear HO_362001 HO381 HO387 HO390 BK361 BK365 BK395 BK409 HB; have HO_362001 := n0_; have HO381 := n1_; have HO387 := n2_; have HO390 := n3_; have HO398 := n4_; have BK361 := n5_; have BK365 := n6_; have BK395 := n7_; have BK409 := n8_; have HB := n9_; clear n0_ n1_ n2_ n3_ n4_ n5_ n6_ n7_ n8_ n9_
      (try clear hb)
      (try clear hb2)
      (try clear hk)
      (try clear hi)
      (try clear ho0)
      obtain ⟨Ao69, co69, eo69⟩ := Kd.R_slice HO398.out
      (first | subst eo69 | (injection eo69 with f1_ f2_ f3_; have f4_ := f1_.symm; have f5_ := f3_.symm; clear f1_ f2_ f3_; subst f4_; subst f5_))
      refine hK.out _ _ ⟨(blk_cell BK365.out 0).trans rfl, (blk_cell BK365.out 1).trans rfl, (blk_cell BK365.out 2).trans rfl⟩ (fun hHeld => ?_)
      clear hK K
      refine norm_ (a' := ?_) ?_ ?_
      rotate_left; (show Act.put _ (some 54) _ = _; simp only [Act.put, List.setIfInBounds_toArray, List.set_cons_zero, List.set_cons_succ, i64_w, i32_w]; rfl)
      refine one_ (i := 3) (N := some 55) #[tT,tT,tT,tT,fF,fF,fF,tT,fF,fF] rfl rfl (one_of HT_.out (by kernel_rfl)) (by decide) (fun K hK => ?_)
      refine goes_ Try.func10 (by kernel_rfl) rfl #[.agg #[.slice A0_0 l0_0.length c0_0, .slice Ao49 y379.length co49, .int .i64 a0_2], .slice Ao69 t396.length co69] (by rfl) rfl rfl (by (try simp only [List.map_toArray, List.map_cons, List.map_nil]); first | done | rfl | (simp only [List.length_drop, List.length_take]; rfl)) ?_
      with_reducible refine (place_Plan.calls kj3 _ _ l0_0 _ _ y379 a0_2 _ _ t396 t399 t402 t405 t406 t407 t408 _ ?side1 ?side2 ?side3 ?side4 ?side5 ?side6 A29.out).mono ?_
      (case side1 => repeat (first | exact (Kd.C_below HR0_0.out HB.out) | (with_reducible refine Kd.C_alloc ?_ _) | (with_reducible refine Kd.C_drewN ?_ _) | (with_reducible refine Kd.C_drew ?_)))
      (case side2 => exact HC0_0.out)
      (case side3 => repeat (first | exact (Kd.N_reads' HO381.out).2.2 | (with_reducible refine Kd.C_alloc ?_ _) | (with_reducible refine Kd.C_drewN ?_ _) | (with_reducible refine Kd.C_drew ?_)))
      (case side4 => exact (Kd.N_reads' HO381.out).2.1)
      (case side5 => repeat (first | exact (Kd.R_reads' HO398.out).2.2 | (with_reducible refine Kd.C_alloc ?_ _) | (with_reducible refine Kd.C_drewN ?_ _) | (with_reducible refine Kd.C_drew ?_)))
      (case side6 => exact (Kd.R_reads' HO398.out).2.1)
      rintro e w70 ⟨v400, v403, rfl, ho0, ho1, hb⟩
      refine ⟨_, rfl, ?_⟩
      have n0_ := Aside0.mk (Kd.V_mono (Kd.V_told (Kd.V_told (Kd.V_old HO_362001.out hb) (Kd.R_base ho0)) (Kd.R_base ho1)) (fun _ h_ => h_.1))
      have n1_ := Aside0.mk (Kd.N_mono (Kd.N_told (Kd.N_told (Kd.N_old HO381.out hb) (Kd.R_base ho0)) (Kd.R_base ho1)) (fun _ h_ => h_.1))
      have n2_ := Aside0.mk (Kd.R_mono (Kd.R_told (Kd.R_told (Kd.R_old HO387.out hb) (Kd.R_base ho0)) (Kd.R_base ho1)) (fun _ h_ => h_.1))
      have n3_ := Aside0.mk (Kd.R_mono (Kd.R_told (Kd.R_told (Kd.R_old HO390.out hb) (Kd.R_base ho0)) (Kd.R_base ho1)) (fun _ h_ => h_.1))
      have n4_ := Aside0.mk (Kd.R_mono (Kd.R_told (Kd.R_told (Kd.R_old HO398.out hb) (Kd.R_base ho0)) (Kd.R_base ho1)) (fun _ h_ => h_.1))
      have n5_ := Aside0.mk (Kd.R_lower (Kd.R_new' (Kd.R_new' (Kd.R_new' (Kd.R_newM (M := fun k_ => (w.heap.size ≤ k_)) ho0 (below_size (by apply_rules (transparency := .reducible) only [HB.out, below_alloc, pw_below_drewN, below_drew1, below_set, GE361.out, GE365.out, GE395.out, GE409.out])) (fun k_ h_ => h_)) (Kd.R_lt HO387.out)) (Kd.R_lt HO390.out)) (Kd.R_lt HO398.out)) (below_size (by apply_rules (transparency := .reducible) only [HB.out, below_alloc, pw_below_drewN, below_drew1, below_set, GE361.out, GE365.out, GE395.out, GE409.out])))
      have n6_ := Aside0.mk (Kd.R_lower (Kd.R_new' (Kd.R_new' (Kd.R_new' (Kd.R_newM (M := fun k_ => (w.heap.size ≤ k_)) ho1 (below_size (by apply_rules (transparency := .reducible) only [HB.out, below_alloc, pw_below_drewN, below_drew1, below_set, GE361.out, GE365.out, GE395.out, GE409.out])) (fun k_ h_ => h_)) (Kd.R_lt HO387.out)) (Kd.R_lt HO390.out)) (Kd.R_lt HO398.out)) (below_size (by apply_rules (transparency := .reducible) only [HB.out, below_alloc, pw_below_drewN, below_drew1, below_set, GE361.out, GE365.out, GE395.out, GE409.out])))
      have n7_ := Aside0.mk (blk_below (g := gb361) (o := _) BK361.out hb)
      have n8_ := Aside0.mk (blk_below (g := gb365) (o := _) BK365.out hb)
      have n9_ := Aside0.mk (blk_below (g := gb395) (o := _) BK395.out hb)
      have n10_ := Aside0.mk (blk_below (g := gb409) (o := _) BK409.out hb)
      have n11_ := Aside0.mk (below_step (by apply_rules (transparency := .reducible) only [HB.out, below_alloc, pw_below_drewN, below_drew1, below_set, GE361.out, GE365.out, GE395.out, GE409.out]) hb)
      clear HO_362001 HO381 HO387 HO390 HO398 BK361 BK365 BK395 BK409 HB; have HO_362001 := n0_; have HO381 := n1_; have HO387 := n2_; have HO390 := n3_; have HO398 := n4_; have HO401 := n5_; have HO404 := n6_; have BK361 := n7_; have BK365 := n8_; have BK395 := n9_; have BK409 := n10_; have HB := n11_; clear n0_ n1_ n2_ n3_ n4_ n5_ n6_ n7_ n8_ n9_ n10_ n11_
      (try clear hb)
      (try clear hb2)
      (try clear hk)
      (try clear hi)
      (try clear ho0)
      (try clear ho1)
      refine hK.out _ _ ⟨(blk_cell BK365.out 0).trans rfl, (blk_cell BK365.out 1).trans rfl, (blk_cell BK365.out 2).trans rfl⟩ (fun hHeld => ?_)
      clear hK K
      refine norm_ (a' := ?_) ?_ ?_
      rotate_left; (show Act.put _ (some 55) _ = _; simp only [Act.put, List.setIfInBounds_toArray, List.set_cons_zero, List.set_cons_succ, i64_w, i32_w]; rfl)
      refine pure_ (i := 4) (N := some 51) (v := ?_) (a' := ?_) #[tT,tT,tT,tT,tT,fF,fF,tT,fF,fF] rfl rfl (any_of HT_.out (by kernel_rfl)) (fun _ _ _ h => h) (Or.inl ⟨by rfl, ?_⟩) ?_ ?_
      rotate_left; (intro w'; go_simp; with_reducible rfl); rotate_left; (simp only [Act.put, List.setIfInBounds_toArray, List.set_cons_zero, List.set_cons_succ, i64_w, i32_w]; rfl)
      refine pure_ (i := 5) (N := some 56) (v := ?_) (a' := ?_) #[tT,tT,tT,tT,tT,tT,fF,tT,fF,fF] rfl rfl (any_of HT_.out (by kernel_rfl)) (fun _ _ _ h => h) (Or.inl ⟨by rfl, ?_⟩) ?_ ?_
      rotate_left; (intro w'; go_simp; with_reducible rfl); rotate_left; (simp only [Act.put, List.setIfInBounds_toArray, List.set_cons_zero, List.set_cons_succ, i64_w, i32_w]; rfl)
      refine pure_ (i := 6) (N := some 57) (v := ?_) (a' := ?_) #[tT,tT,tT,tT,tT,tT,tT,tT,fF,fF] rfl rfl (any_of HT_.out (by kernel_rfl)) (fun _ _ _ h => h) (Or.inl ⟨by rfl, ?_⟩) ?_ ?_
      rotate_left; (intro w'; go_simp; with_reducible rfl); rotate_left; (simp only [Act.put, List.setIfInBounds_toArray, List.set_cons_zero, List.set_cons_succ, i64_w, i32_w]; rfl)
      exact norm_ (by simp only [putAll, Act.put, List.setIfInBounds_toArray, List.set_cons_zero, List.set_cons_succ]) (hCont (.slice Ao69 t396.length co69, v400, v403, gb409) _ ⟨hHeld, (Kd.N_mono HO381.out (fun _ hk => ⟨hk.1.1.1.1.1, hk.1.1.1.1.2.2.1, hk.1.1.1.1.2.2.2.1, hk.1.1.2, hk.1.2, hk.2, hk.1.1.1.1.2.2.2.2.1, hk.1.1.1.1.2.2.2.2.2.1, hk.1.1.1.1.2.2.2.2.2.2, hk.1.1.1.2⟩)), (Kd.R_mono HO387.out (fun _ hk => ⟨hk.1.1.1.1, hk.1.1.1.2.2, hk.1.1.2, hk.1.2, hk.2⟩)), (Kd.R_mono HO390.out (fun _ hk => ⟨hk.1.1.1.1, hk.1.1.1.2.2, hk.1.1.2, hk.1.2, hk.2⟩)), (Kd.R_mono HO398.out (fun _ hk => ⟨hk.1.1.1.1.1, hk.1.1.1.2, hk.1.1.2, hk.1.2, hk.2⟩)), (Kd.R_mono HO401.out (fun _ hk => ⟨hk.1.1.1.1, hk.1.1.2, hk.1.2, hk.2, hk.1.1.1.2⟩)), (Kd.R_mono HO404.out (fun _ hk => ⟨hk.1.1.1.1, hk.1.1.2, hk.1.2, hk.2, hk.1.1.1.2⟩)), (Kd.V_mono HO_362001.out (fun _ hk => ⟨hk.1.1.1.1.1, hk.1.1.1.1.2.1, hk.1.1.1.1.2.2.2.1, hk.1.1.1.1.2.2.2.2.1, hk.1.1.2, hk.1.2, hk.2, hk.1.1.1.1.2.2.2.2.2.1, hk.1.1.1.1.2.2.2.2.2.2.1, hk.1.1.1.1.2.2.2.2.2.2.2, hk.1.1.1.2⟩)), BK361.out, BK365.out, BK395.out, BK409.out, GW409.out, GE409.out, NB361_409.out, NB409_361.out, NB365_409.out, NB409_365.out, NB395_409.out, NB409_395.out, (by apply_rules (transparency := .reducible) only [HB.out, below_alloc, pw_below_drewN, below_drew1, below_set, GE361.out, GE365.out, GE395.out, GE409.out])⟩)
    rintro ⟨v397, v400, v403, gb409⟩ w71 ⟨hS_, h0_, h1_, h2_, h3_, h4_, h5_, h6_, h7_, h8_, h9_, h10_, h11_, h12_, h13_, h14_, h15_, h16_, h17_, h18_, h19_⟩
    have n0_ : Aside0 (Kd.N k39 39 w71 w.heap.size (fun k_ => (P0_1_ k_ ∨ w.heap.size ≤ k_) ∧ some k_ ≠ (.slice Ao58 t385.length co58 : Value).ownBlock ∧ some k_ ≠ (.slice Ao60 t388.length co60 : Value).ownBlock ∧ some k_ ≠ (v397 : Value).ownBlock ∧ some k_ ≠ (v400 : Value).ownBlock ∧ some k_ ≠ (v403 : Value).ownBlock ∧ k_ ≠ gb361 ∧ k_ ≠ gb365 ∧ k_ ≠ gb395 ∧ k_ ≠ gb409) (.slice Ao49 y379.length co49) y379) := ⟨h0_⟩
    have n1_ : Aside0 (Kd.R (Kd.int .i64) 3 w71 w.heap.size (fun k_ => (w.heap.size ≤ k_) ∧ some k_ ≠ (.slice Ao60 t388.length co60 : Value).ownBlock ∧ some k_ ≠ (v397 : Value).ownBlock ∧ some k_ ≠ (v400 : Value).ownBlock ∧ some k_ ≠ (v403 : Value).ownBlock) (.slice Ao58 t385.length co58) t385) := ⟨h1_⟩
    have n2_ : Aside0 (Kd.R (Kd.int .i64) 3 w71 w.heap.size (fun k_ => (w.heap.size ≤ k_) ∧ some k_ ≠ (.slice Ao58 t385.length co58 : Value).ownBlock ∧ some k_ ≠ (v397 : Value).ownBlock ∧ some k_ ≠ (v400 : Value).ownBlock ∧ some k_ ≠ (v403 : Value).ownBlock) (.slice Ao60 t388.length co60) t388) := ⟨h2_⟩
    have n3_ : Aside0 (Kd.R (Kd.int .i64) 3 w71 w.heap.size (fun k_ => (w.heap.size ≤ k_) ∧ some k_ ≠ (.slice Ao58 t385.length co58 : Value).ownBlock ∧ some k_ ≠ (.slice Ao60 t388.length co60 : Value).ownBlock ∧ some k_ ≠ (v400 : Value).ownBlock ∧ some k_ ≠ (v403 : Value).ownBlock) v397 t396) := ⟨h3_⟩
    have n4_ : Aside0 (Kd.R (Kd.int .i64) 3 w71 w.heap.size (fun k_ => (w.heap.size ≤ k_) ∧ some k_ ≠ (.slice Ao58 t385.length co58 : Value).ownBlock ∧ some k_ ≠ (.slice Ao60 t388.length co60 : Value).ownBlock ∧ some k_ ≠ (v397 : Value).ownBlock ∧ some k_ ≠ (v403 : Value).ownBlock) v400 t399) := ⟨h4_⟩
    have n5_ : Aside0 (Kd.R (Kd.int .i64) 3 w71 w.heap.size (fun k_ => (w.heap.size ≤ k_) ∧ some k_ ≠ (.slice Ao58 t385.length co58 : Value).ownBlock ∧ some k_ ≠ (.slice Ao60 t388.length co60 : Value).ownBlock ∧ some k_ ≠ (v397 : Value).ownBlock ∧ some k_ ≠ (v400 : Value).ownBlock) v403 t402) := ⟨h5_⟩
    have n6_ : Aside0 (Kd.V k39 39 w71 w.heap.size (fun k_ => (P0_1_ k_ ∨ w.heap.size ≤ k_) ∧ some k_ ≠ (.slice Ao49 y379.length co49 : Value).ownBlock ∧ some k_ ≠ (.slice Ao58 t385.length co58 : Value).ownBlock ∧ some k_ ≠ (.slice Ao60 t388.length co60 : Value).ownBlock ∧ some k_ ≠ (v397 : Value).ownBlock ∧ some k_ ≠ (v400 : Value).ownBlock ∧ some k_ ≠ (v403 : Value).ownBlock ∧ k_ ≠ gb361 ∧ k_ ≠ gb365 ∧ k_ ≠ gb395 ∧ k_ ≠ gb409) (.slice A0_1 l0_1.length c0_1) l0_1) := ⟨h6_⟩
    have n7_ : Aside0 (w71.heap[gb361]? = some (.cells #[.slice A0_0 l0_0.length c0_0, .slice A0_1 l0_1.length c0_1, .int .i64 a0_2] 25 (0, 0))) := ⟨h7_⟩
    have n8_ : Aside0 (w71.heap[gb365]? = some (.cells #[.slice A0_0 l0_0.length c0_0, .slice Ao49 y379.length co49, .int .i64 a0_2] 25 (0, 0))) := ⟨h8_⟩
    have n9_ : Aside0 (w71.heap[gb395]? = some (.cells #[.slice Ao58 t385.length co58, .slice Ao60 t388.length co60, .int .i64 t391, .int .i64 t392, .int .i64 t393] 30 (0, 0))) := ⟨h9_⟩
    have n10_ : Aside0 (w71.heap[gb409]? = some (.cells #[.slice none 0 0, .slice none 0 0, .int .i64 0, .int .i64 0, .int .i64 0] 30 (0, 0))) := ⟨h10_⟩
    have n11_ : Aside0 (w.heap.size ≤ gb409) := ⟨h11_⟩
    have n12_ : Aside0 (w.heap.size ≤ gb409) := ⟨h12_⟩
    have n13_ : Aside0 (gb361 ≠ gb409) := ⟨h13_⟩
    have n14_ : Aside0 (gb409 ≠ gb361) := ⟨h14_⟩
    have n15_ : Aside0 (gb365 ≠ gb409) := ⟨h15_⟩
    have n16_ : Aside0 (gb409 ≠ gb365) := ⟨h16_⟩
    have n17_ : Aside0 (gb395 ≠ gb409) := ⟨h17_⟩
    have n18_ : Aside0 (gb409 ≠ gb395) := ⟨h18_⟩
    have n19_ : Aside0 (Below w.heap.size w w71) := ⟨h19_⟩
    clear HO_362001 HO381 HO387 HO390 BK361 BK365 BK395 HB
    clear h0_ h1_ h2_ h3_ h4_ h5_ h6_ h7_ h8_ h9_ h10_ h11_ h12_ h13_ h14_ h15_ h16_ h17_ h18_ h19_
    have HO381 := n0_
    have HO387 := n1_
    have HO390 := n2_
    have HO398 := n3_
    have HO401 := n4_
    have HO404 := n5_
    have HO_362001 := n6_
    have BK361 := n7_
    have BK365 := n8_
    have BK395 := n9_
    have BK409 := n10_
    have GW409 := n11_
    have GE409 := n12_
    have NB361_409 := n13_
    have NB409_361 := n14_
    have NB365_409 := n15_
    have NB409_365 := n16_
    have NB395_409 := n17_
    have NB409_395 := n18_
    have HB := n19_
    clear n0_ n1_ n2_ n3_ n4_ n5_ n6_ n7_ n8_ n9_ n10_ n11_ n12_ n13_ n14_ n15_ n16_ n17_ n18_ n19_
    have hHeld : w71.cell? ⟨gb365, 0, none⟩ = some (.slice A0_0 l0_0.length c0_0) ∧ w71.cell? ⟨gb365, 1, none⟩ = some (.slice Ao49 y379.length co49) ∧ w71.cell? ⟨gb365, 2, none⟩ = some (.int .i64 a0_2) := hS_
    obtain ⟨Ao72, co72, eo72⟩ := Kd.R_slice HO401.out
    (first | subst eo72 | (injection eo72 with f1_ f2_ f3_; have f4_ := f1_.symm; have f5_ := f3_.symm; clear f1_ f2_ f3_; subst f4_; subst f5_))
    obtain ⟨Ao74, co74, eo74⟩ := Kd.R_slice HO404.out
    (first | subst eo74 | (injection eo74 with f1_ f2_ f3_; have f4_ := f1_.symm; have f5_ := f3_.symm; clear f1_ f2_ f3_; subst f4_; subst f5_))
    refine norm_ (a' := ?_) ?_ ?_
    rotate_left
    ·
     simp only [putAll, Act.put, List.setIfInBounds_toArray, List.set_cons_zero, List.set_cons_succ]
     rfl
    refine one_ (i := 8) (N := none) #[tT,tT,tT,tT,tT,tT,tT,tT,tT,fF] rfl rfl (one_of HT_.out (by kernel_rfl)) (by decide) (fun K hK => ?_)
    have hs73 : w71.cell? ⟨gb409, 0, none⟩ = some (.slice none 0 0) := (blk_cell BK409.out 0).trans rfl
    have hfs73 := blk_frozen BK409.out 0
    have hns73_0 := NB361_409.out
    have hns73_1 := NB365_409.out
    have hns73_2 := NB395_409.out
    have hms73_0 := NB409_361.out
    have hms73_1 := NB409_365.out
    have hms73_2 := NB409_395.out
    have hs75 : w71.cell? ⟨gb409, 1, none⟩ = some (.slice none 0 0) := (blk_cell BK409.out 1).trans rfl
    have hfs75 := blk_frozen BK409.out 1
    have hns75_0 := NB361_409.out
    have hns75_1 := NB365_409.out
    have hns75_2 := NB395_409.out
    have hms75_0 := NB409_361.out
    have hms75_1 := NB409_365.out
    have hms75_2 := NB409_395.out
    have hs76 : w71.cell? ⟨gb409, 2, none⟩ = some (.int .i64 0) := (blk_cell BK409.out 2).trans rfl
    have hfs76 := blk_frozen BK409.out 2
    have hns76_0 := NB361_409.out
    have hns76_1 := NB365_409.out
    have hns76_2 := NB395_409.out
    have hms76_0 := NB409_361.out
    have hms76_1 := NB409_365.out
    have hms76_2 := NB409_395.out
    have hs77 : w71.cell? ⟨gb409, 3, none⟩ = some (.int .i64 0) := (blk_cell BK409.out 3).trans rfl
    have hfs77 := blk_frozen BK409.out 3
    have hns77_0 := NB361_409.out
    have hns77_1 := NB365_409.out
    have hns77_2 := NB395_409.out
    have hms77_0 := NB409_361.out
    have hms77_1 := NB409_365.out
    have hms77_2 := NB409_395.out
    have hs78 : w71.cell? ⟨gb409, 4, none⟩ = some (.int .i64 0) := (blk_cell BK409.out 4).trans rfl
    have hfs78 := blk_frozen BK409.out 4
    have hns78_0 := NB361_409.out
    have hns78_1 := NB365_409.out
    have hns78_2 := NB395_409.out
    have hms78_0 := NB409_361.out
    have hms78_1 := NB409_365.out
    have hms78_2 := NB409_395.out
    refine skip_ (w1 := ?_) (by rfl) rfl ?_ ?_
    rotate_left
    ·
     go_simp
     rfl
    refine hK.out _ _ ⟨((cell_far (p := ⟨gb409, _, none⟩) NB365_409.out _).trans (((cell_far (p := ⟨gb409, _, none⟩) NB365_409.out _).trans (((cell_far (p := ⟨gb409, _, none⟩) NB365_409.out _).trans (((cell_far (p := ⟨gb409, _, none⟩) NB365_409.out _).trans (((cell_far (p := ⟨gb409, _, none⟩) NB365_409.out _).trans (hHeld.1)))))))))), ((cell_far (p := ⟨gb409, _, none⟩) NB365_409.out _).trans (((cell_far (p := ⟨gb409, _, none⟩) NB365_409.out _).trans (((cell_far (p := ⟨gb409, _, none⟩) NB365_409.out _).trans (((cell_far (p := ⟨gb409, _, none⟩) NB365_409.out _).trans (((cell_far (p := ⟨gb409, _, none⟩) NB365_409.out _).trans (hHeld.2.1)))))))))), ((cell_far (p := ⟨gb409, _, none⟩) NB365_409.out _).trans (((cell_far (p := ⟨gb409, _, none⟩) NB365_409.out _).trans (((cell_far (p := ⟨gb409, _, none⟩) NB365_409.out _).trans (((cell_far (p := ⟨gb409, _, none⟩) NB365_409.out _).trans (((cell_far (p := ⟨gb409, _, none⟩) NB365_409.out _).trans (hHeld.2.2))))))))))⟩ (fun hHeld => ?_)
    clear hK K
    refine pure_ (i := 9) (N := some 11) (v := ?_) (a' := ?_) #[tT,tT,tT,tT,tT,tT,tT,tT,tT,tT] rfl rfl (any_of HT_.out (by kernel_rfl)) (fun _ _ _ h => h) (Or.inl ⟨by rfl, ?_⟩) ?_ ?_
    rotate_left; (intro w'; go_simp; with_reducible rfl); rotate_left; (simp only [Act.put, List.setIfInBounds_toArray, List.set_cons_zero, List.set_cons_succ, i64_w, i32_w]; rfl)
    refine done_ (done_of HT_.out (by kernel_rfl)) ?_
    go_upto_region 7 with (fail)
    go_cut [63] (fun v63 wc => ∃ (kq : Nat) (x63_29 : Bool), v63 = .bool x63_29 ∧ Aside0 (splicelaw12_PlaceMore.j1 kq a1 t394 t408 x63_29 l0_0 l0_1 a0_2 t385 t388 t391 t392 t393 t399 t402 t405 t406 t407 = some r) ∧ Aside0 (kq ≤ kj3) ∧ Aside0 (Kd.V k39 39 wc w.heap.size (fun k_ => (P0_1_ k_ ∨ w.heap.size ≤ k_) ∧ some k_ ≠ ((.slice Ao49 y379.length co49) : Value).ownBlock ∧ some k_ ≠ ((.slice Ao58 t385.length co58) : Value).ownBlock ∧ some k_ ≠ ((.slice Ao60 t388.length co60) : Value).ownBlock ∧ some k_ ≠ ((.slice Ao72 t399.length co72) : Value).ownBlock ∧ some k_ ≠ ((.slice Ao74 t402.length co74) : Value).ownBlock ∧ k_ ≠ gb361 ∧ k_ ≠ gb365 ∧ k_ ≠ gb395 ∧ k_ ≠ gb409) (.slice A0_1 l0_1.length c0_1) l0_1) ∧ Aside0 (Kd.N k39 39 wc w.heap.size (fun k_ => (P0_1_ k_ ∨ w.heap.size ≤ k_) ∧ some k_ ≠ ((.slice Ao58 t385.length co58) : Value).ownBlock ∧ some k_ ≠ ((.slice Ao60 t388.length co60) : Value).ownBlock ∧ some k_ ≠ ((.slice Ao72 t399.length co72) : Value).ownBlock ∧ some k_ ≠ ((.slice Ao74 t402.length co74) : Value).ownBlock ∧ k_ ≠ gb361 ∧ k_ ≠ gb365 ∧ k_ ≠ gb395 ∧ k_ ≠ gb409) (.slice Ao49 y379.length co49) y379) ∧ Aside0 (Kd.R (Kd.int .i64) 3 wc w.heap.size (fun k_ => (w.heap.size ≤ k_) ∧ some k_ ≠ ((.slice Ao60 t388.length co60) : Value).ownBlock ∧ some k_ ≠ ((.slice Ao72 t399.length co72) : Value).ownBlock ∧ some k_ ≠ ((.slice Ao74 t402.length co74) : Value).ownBlock) (.slice Ao58 t385.length co58) t385) ∧ Aside0 (Kd.R (Kd.int .i64) 3 wc w.heap.size (fun k_ => (w.heap.size ≤ k_) ∧ some k_ ≠ ((.slice Ao58 t385.length co58) : Value).ownBlock ∧ some k_ ≠ ((.slice Ao72 t399.length co72) : Value).ownBlock ∧ some k_ ≠ ((.slice Ao74 t402.length co74) : Value).ownBlock) (.slice Ao60 t388.length co60) t388) ∧ Aside0 (Kd.R (Kd.int .i64) 3 wc w.heap.size (fun k_ => (w.heap.size ≤ k_) ∧ some k_ ≠ ((.slice Ao58 t385.length co58) : Value).ownBlock ∧ some k_ ≠ ((.slice Ao60 t388.length co60) : Value).ownBlock ∧ some k_ ≠ ((.slice Ao74 t402.length co74) : Value).ownBlock) (.slice Ao72 t399.length co72) t399) ∧ Aside0 (Kd.R (Kd.int .i64) 3 wc w.heap.size (fun k_ => (w.heap.size ≤ k_) ∧ some k_ ≠ ((.slice Ao58 t385.length co58) : Value).ownBlock ∧ some k_ ≠ ((.slice Ao60 t388.length co60) : Value).ownBlock ∧ some k_ ≠ ((.slice Ao72 t399.length co72) : Value).ownBlock) (.slice Ao74 t402.length co74) t402) ∧ Aside0 (wc.heap[gb361]? = some (.cells #[(.slice A0_0 l0_0.length c0_0), (.slice A0_1 l0_1.length c0_1), .int .i64 a0_2] 25 (0, 0))) ∧ Aside0 (wc.heap[gb365]? = some (.cells #[(.slice A0_0 l0_0.length c0_0), (.slice Ao49 y379.length co49), .int .i64 a0_2] 25 (0, 0))) ∧ Aside0 (wc.heap[gb395]? = some (.cells #[(.slice Ao58 t385.length co58), (.slice Ao60 t388.length co60), .int .i64 t391, .int .i64 t392, .int .i64 t393] 30 (0, 0))) ∧ Aside0 (wc.heap[gb409]? = some (.cells #[(.slice Ao72 t399.length co72), (.slice Ao74 t402.length co74), .int .i64 t405, .int .i64 t406, .int .i64 t407] 30 (0, 0))) ∧ Aside0 (Below w.heap.size w wc))
    case first =>
     have H := HC30.out
     clear HC30
     by_cases c79 : t394 = 0
     ·
      rw [if_pos c79] at H
      have c79b0 : (t394 == 0) = true := beq_iff_eq.mpr c79
      have c79b1 : (t394 != 0) = false := bne_eq_false_iff_eq.mpr c79
      clear c79
      (first | (generalize hb_ : (t394 == 0) = bb_ at *; subst c79b0; have c79b0 := hb_; clear hb_) | rw [c79b0] | (simp only [i64_w, i32_w]; rw [c79b0]) | skip)
      have H' := Aside0.mk H
      clear H
      go_wp2
      go_meet
      case rel => exact ⟨_, ((t408 != 0)), (by first | rfl | (simp; done) | (simp [*]; done)), H', ⟨by have := HJ3.out; first | omega | exact Nat.le_refl _⟩, ⟨by (with_reducible repeat (first | apply Kd.V_alloc | apply Kd.V_drewN | apply Kd.V_drew)); exact Kd.V_mono (Kd.V_far (p := ⟨gb409, 4, none⟩) (Kd.V_far (p := ⟨gb409, 3, none⟩) (Kd.V_far (p := ⟨gb409, 2, none⟩) (Kd.V_far (p := ⟨gb409, 1, none⟩) (Kd.V_far (p := ⟨gb409, 0, none⟩) (Kd.V_mono HO_362001.out (fun k_ hk => (⟨hk, hk.2.2.2.2.2.2.2.2.2.2⟩ : _ ∧ k_ ≠ gb409))) (fun _ hk => hk.2) (.slice Ao72 t399.length co72)) (fun _ hk => hk.2) (.slice Ao74 t402.length co74)) (fun _ hk => hk.2) (.int .i64 t405)) (fun _ hk => hk.2) (.int .i64 t406)) (fun _ hk => hk.2) (.int .i64 t407)) (fun _ hk => ⟨hk.1.1, hk.1.2.1, hk.1.2.2.1, hk.1.2.2.2.1, hk.1.2.2.2.2.2.1, hk.1.2.2.2.2.2.2.1, hk.1.2.2.2.2.2.2.2.1, hk.1.2.2.2.2.2.2.2.2.1, hk.1.2.2.2.2.2.2.2.2.2.1, hk.1.2.2.2.2.2.2.2.2.2.2⟩)⟩, ⟨by (with_reducible repeat (first | apply Kd.N_alloc | apply Kd.N_drewN | apply Kd.N_drew)); exact Kd.N_mono (Kd.N_far (p := ⟨gb409, 4, none⟩) (Kd.N_far (p := ⟨gb409, 3, none⟩) (Kd.N_far (p := ⟨gb409, 2, none⟩) (Kd.N_far (p := ⟨gb409, 1, none⟩) (Kd.N_far (p := ⟨gb409, 0, none⟩) (Kd.N_mono HO381.out (fun k_ hk => (⟨hk, hk.2.2.2.2.2.2.2.2.2⟩ : _ ∧ k_ ≠ gb409))) (fun _ hk => hk.2) (.slice Ao72 t399.length co72)) (fun _ hk => hk.2) (.slice Ao74 t402.length co74)) (fun _ hk => hk.2) (.int .i64 t405)) (fun _ hk => hk.2) (.int .i64 t406)) (fun _ hk => hk.2) (.int .i64 t407)) (fun _ hk => ⟨hk.1.1, hk.1.2.1, hk.1.2.2.1, hk.1.2.2.2.2.1, hk.1.2.2.2.2.2.1, hk.1.2.2.2.2.2.2.1, hk.1.2.2.2.2.2.2.2.1, hk.1.2.2.2.2.2.2.2.2.1, hk.1.2.2.2.2.2.2.2.2.2⟩)⟩, ⟨by (with_reducible repeat (first | apply Kd.R_alloc | apply Kd.R_drewN | apply Kd.R_drew)); exact Kd.R_mono (Kd.R_far (p := ⟨gb409, 4, none⟩) (Kd.R_far (p := ⟨gb409, 3, none⟩) (Kd.R_far (p := ⟨gb409, 2, none⟩) (Kd.R_far (p := ⟨gb409, 1, none⟩) (Kd.R_far (p := ⟨gb409, 0, none⟩) (Kd.R_types HO387.out BK409.out (by decide)) (fun _ hk => hk.2) (.slice Ao72 t399.length co72)) (fun _ hk => hk.2) (.slice Ao74 t402.length co74)) (fun _ hk => hk.2) (.int .i64 t405)) (fun _ hk => hk.2) (.int .i64 t406)) (fun _ hk => hk.2) (.int .i64 t407)) (fun _ hk => ⟨hk.1.1, hk.1.2.1, hk.1.2.2.2.1, hk.1.2.2.2.2⟩)⟩, ⟨by (with_reducible repeat (first | apply Kd.R_alloc | apply Kd.R_drewN | apply Kd.R_drew)); exact Kd.R_mono (Kd.R_far (p := ⟨gb409, 4, none⟩) (Kd.R_far (p := ⟨gb409, 3, none⟩) (Kd.R_far (p := ⟨gb409, 2, none⟩) (Kd.R_far (p := ⟨gb409, 1, none⟩) (Kd.R_far (p := ⟨gb409, 0, none⟩) (Kd.R_types HO390.out BK409.out (by decide)) (fun _ hk => hk.2) (.slice Ao72 t399.length co72)) (fun _ hk => hk.2) (.slice Ao74 t402.length co74)) (fun _ hk => hk.2) (.int .i64 t405)) (fun _ hk => hk.2) (.int .i64 t406)) (fun _ hk => hk.2) (.int .i64 t407)) (fun _ hk => ⟨hk.1.1, hk.1.2.1, hk.1.2.2.2.1, hk.1.2.2.2.2⟩)⟩, ⟨by (with_reducible repeat (first | apply Kd.R_alloc | apply Kd.R_drewN | apply Kd.R_drew)); exact Kd.R_mono (Kd.R_far (p := ⟨gb409, 4, none⟩) (Kd.R_far (p := ⟨gb409, 3, none⟩) (Kd.R_far (p := ⟨gb409, 2, none⟩) (Kd.R_far (p := ⟨gb409, 1, none⟩) (Kd.R_far (p := ⟨gb409, 0, none⟩) (Kd.R_types HO401.out BK409.out (by decide)) (fun _ hk => hk.2) (.slice Ao72 t399.length co72)) (fun _ hk => hk.2) (.slice Ao74 t402.length co74)) (fun _ hk => hk.2) (.int .i64 t405)) (fun _ hk => hk.2) (.int .i64 t406)) (fun _ hk => hk.2) (.int .i64 t407)) (fun _ hk => ⟨hk.1.1, hk.1.2.1, hk.1.2.2.1, hk.1.2.2.2.2⟩)⟩, ⟨by (with_reducible repeat (first | apply Kd.R_alloc | apply Kd.R_drewN | apply Kd.R_drew)); exact Kd.R_mono (Kd.R_far (p := ⟨gb409, 4, none⟩) (Kd.R_far (p := ⟨gb409, 3, none⟩) (Kd.R_far (p := ⟨gb409, 2, none⟩) (Kd.R_far (p := ⟨gb409, 1, none⟩) (Kd.R_far (p := ⟨gb409, 0, none⟩) (Kd.R_types HO404.out BK409.out (by decide)) (fun _ hk => hk.2) (.slice Ao72 t399.length co72)) (fun _ hk => hk.2) (.slice Ao74 t402.length co74)) (fun _ hk => hk.2) (.int .i64 t405)) (fun _ hk => hk.2) (.int .i64 t406)) (fun _ hk => hk.2) (.int .i64 t407)) (fun _ hk => ⟨hk.1.1, hk.1.2.1, hk.1.2.2.1, hk.1.2.2.2.2⟩)⟩, ⟨by apply_rules (transparency := .reducible) only [blk_drewN, blk_drew, blk_alloc, blk_far, NB361_409.out, BK361.out]⟩, ⟨by apply_rules (transparency := .reducible) only [blk_drewN, blk_drew, blk_alloc, blk_far, NB365_409.out, BK365.out]⟩, ⟨by apply_rules (transparency := .reducible) only [blk_drewN, blk_drew, blk_alloc, blk_far, NB395_409.out, BK395.out]⟩, ⟨by (try apply_rules (transparency := .reducible) only [blk_drewN, blk_drew, blk_alloc]); refine blk_put (cs := #[.slice Ao72 t399.length co72, .slice Ao74 t402.length co74, .int .i64 t405, .int .i64 t406, .int .i64 0]) ?_ 4 _ rfl; (try apply_rules (transparency := .reducible) only [blk_drewN, blk_drew, blk_alloc]); refine blk_put (cs := #[.slice Ao72 t399.length co72, .slice Ao74 t402.length co74, .int .i64 t405, .int .i64 0, .int .i64 0]) ?_ 3 _ rfl; (try apply_rules (transparency := .reducible) only [blk_drewN, blk_drew, blk_alloc]); refine blk_put (cs := #[.slice Ao72 t399.length co72, .slice Ao74 t402.length co74, .int .i64 0, .int .i64 0, .int .i64 0]) ?_ 2 _ rfl; (try apply_rules (transparency := .reducible) only [blk_drewN, blk_drew, blk_alloc]); refine blk_put (cs := #[.slice Ao72 t399.length co72, .slice none 0 0, .int .i64 0, .int .i64 0, .int .i64 0]) ?_ 1 _ rfl; (try apply_rules (transparency := .reducible) only [blk_drewN, blk_drew, blk_alloc]); refine blk_put (cs := #[.slice none 0 0, .slice none 0 0, .int .i64 0, .int .i64 0, .int .i64 0]) ?_ 0 _ rfl; (try apply_rules (transparency := .reducible) only [blk_drewN, blk_drew, blk_alloc]); exact BK409.out⟩, ⟨by apply_rules (transparency := .reducible) only [HB.out, below_alloc, pw_below_drewN, below_drew1, below_set, GE361.out, GE365.out, GE395.out, GE409.out]⟩⟩
     ·
      rw [if_neg c79] at H
      have c79b0 : (t394 == 0) = false := beq_eq_false_iff_ne.mpr c79
      have c79b1 : (t394 != 0) = true := bne_iff_ne.mpr c79
      (first | (generalize hb_ : (t394 == 0) = bb_ at *; subst c79b0; have c79b0 := hb_; clear hb_) | rw [c79b0] | (simp only [i64_w, i32_w]; rw [c79b0]) | skip)
      have H' := Aside0.mk H
      clear H
      go_wp2
      go_meet
      case rel => exact ⟨_, (true), (by first | rfl | (simp; done) | (simp [*]; done)), H', ⟨by have := HJ3.out; first | omega | exact Nat.le_refl _⟩, ⟨by (with_reducible repeat (first | apply Kd.V_alloc | apply Kd.V_drewN | apply Kd.V_drew)); exact Kd.V_mono (Kd.V_far (p := ⟨gb409, 4, none⟩) (Kd.V_far (p := ⟨gb409, 3, none⟩) (Kd.V_far (p := ⟨gb409, 2, none⟩) (Kd.V_far (p := ⟨gb409, 1, none⟩) (Kd.V_far (p := ⟨gb409, 0, none⟩) (Kd.V_mono HO_362001.out (fun k_ hk => (⟨hk, hk.2.2.2.2.2.2.2.2.2.2⟩ : _ ∧ k_ ≠ gb409))) (fun _ hk => hk.2) (.slice Ao72 t399.length co72)) (fun _ hk => hk.2) (.slice Ao74 t402.length co74)) (fun _ hk => hk.2) (.int .i64 t405)) (fun _ hk => hk.2) (.int .i64 t406)) (fun _ hk => hk.2) (.int .i64 t407)) (fun _ hk => ⟨hk.1.1, hk.1.2.1, hk.1.2.2.1, hk.1.2.2.2.1, hk.1.2.2.2.2.2.1, hk.1.2.2.2.2.2.2.1, hk.1.2.2.2.2.2.2.2.1, hk.1.2.2.2.2.2.2.2.2.1, hk.1.2.2.2.2.2.2.2.2.2.1, hk.1.2.2.2.2.2.2.2.2.2.2⟩)⟩, ⟨by (with_reducible repeat (first | apply Kd.N_alloc | apply Kd.N_drewN | apply Kd.N_drew)); exact Kd.N_mono (Kd.N_far (p := ⟨gb409, 4, none⟩) (Kd.N_far (p := ⟨gb409, 3, none⟩) (Kd.N_far (p := ⟨gb409, 2, none⟩) (Kd.N_far (p := ⟨gb409, 1, none⟩) (Kd.N_far (p := ⟨gb409, 0, none⟩) (Kd.N_mono HO381.out (fun k_ hk => (⟨hk, hk.2.2.2.2.2.2.2.2.2⟩ : _ ∧ k_ ≠ gb409))) (fun _ hk => hk.2) (.slice Ao72 t399.length co72)) (fun _ hk => hk.2) (.slice Ao74 t402.length co74)) (fun _ hk => hk.2) (.int .i64 t405)) (fun _ hk => hk.2) (.int .i64 t406)) (fun _ hk => hk.2) (.int .i64 t407)) (fun _ hk => ⟨hk.1.1, hk.1.2.1, hk.1.2.2.1, hk.1.2.2.2.2.1, hk.1.2.2.2.2.2.1, hk.1.2.2.2.2.2.2.1, hk.1.2.2.2.2.2.2.2.1, hk.1.2.2.2.2.2.2.2.2.1, hk.1.2.2.2.2.2.2.2.2.2⟩)⟩, ⟨by (with_reducible repeat (first | apply Kd.R_alloc | apply Kd.R_drewN | apply Kd.R_drew)); exact Kd.R_mono (Kd.R_far (p := ⟨gb409, 4, none⟩) (Kd.R_far (p := ⟨gb409, 3, none⟩) (Kd.R_far (p := ⟨gb409, 2, none⟩) (Kd.R_far (p := ⟨gb409, 1, none⟩) (Kd.R_far (p := ⟨gb409, 0, none⟩) (Kd.R_types HO387.out BK409.out (by decide)) (fun _ hk => hk.2) (.slice Ao72 t399.length co72)) (fun _ hk => hk.2) (.slice Ao74 t402.length co74)) (fun _ hk => hk.2) (.int .i64 t405)) (fun _ hk => hk.2) (.int .i64 t406)) (fun _ hk => hk.2) (.int .i64 t407)) (fun _ hk => ⟨hk.1.1, hk.1.2.1, hk.1.2.2.2.1, hk.1.2.2.2.2⟩)⟩, ⟨by (with_reducible repeat (first | apply Kd.R_alloc | apply Kd.R_drewN | apply Kd.R_drew)); exact Kd.R_mono (Kd.R_far (p := ⟨gb409, 4, none⟩) (Kd.R_far (p := ⟨gb409, 3, none⟩) (Kd.R_far (p := ⟨gb409, 2, none⟩) (Kd.R_far (p := ⟨gb409, 1, none⟩) (Kd.R_far (p := ⟨gb409, 0, none⟩) (Kd.R_types HO390.out BK409.out (by decide)) (fun _ hk => hk.2) (.slice Ao72 t399.length co72)) (fun _ hk => hk.2) (.slice Ao74 t402.length co74)) (fun _ hk => hk.2) (.int .i64 t405)) (fun _ hk => hk.2) (.int .i64 t406)) (fun _ hk => hk.2) (.int .i64 t407)) (fun _ hk => ⟨hk.1.1, hk.1.2.1, hk.1.2.2.2.1, hk.1.2.2.2.2⟩)⟩, ⟨by (with_reducible repeat (first | apply Kd.R_alloc | apply Kd.R_drewN | apply Kd.R_drew)); exact Kd.R_mono (Kd.R_far (p := ⟨gb409, 4, none⟩) (Kd.R_far (p := ⟨gb409, 3, none⟩) (Kd.R_far (p := ⟨gb409, 2, none⟩) (Kd.R_far (p := ⟨gb409, 1, none⟩) (Kd.R_far (p := ⟨gb409, 0, none⟩) (Kd.R_types HO401.out BK409.out (by decide)) (fun _ hk => hk.2) (.slice Ao72 t399.length co72)) (fun _ hk => hk.2) (.slice Ao74 t402.length co74)) (fun _ hk => hk.2) (.int .i64 t405)) (fun _ hk => hk.2) (.int .i64 t406)) (fun _ hk => hk.2) (.int .i64 t407)) (fun _ hk => ⟨hk.1.1, hk.1.2.1, hk.1.2.2.1, hk.1.2.2.2.2⟩)⟩, ⟨by (with_reducible repeat (first | apply Kd.R_alloc | apply Kd.R_drewN | apply Kd.R_drew)); exact Kd.R_mono (Kd.R_far (p := ⟨gb409, 4, none⟩) (Kd.R_far (p := ⟨gb409, 3, none⟩) (Kd.R_far (p := ⟨gb409, 2, none⟩) (Kd.R_far (p := ⟨gb409, 1, none⟩) (Kd.R_far (p := ⟨gb409, 0, none⟩) (Kd.R_types HO404.out BK409.out (by decide)) (fun _ hk => hk.2) (.slice Ao72 t399.length co72)) (fun _ hk => hk.2) (.slice Ao74 t402.length co74)) (fun _ hk => hk.2) (.int .i64 t405)) (fun _ hk => hk.2) (.int .i64 t406)) (fun _ hk => hk.2) (.int .i64 t407)) (fun _ hk => ⟨hk.1.1, hk.1.2.1, hk.1.2.2.1, hk.1.2.2.2.2⟩)⟩, ⟨by apply_rules (transparency := .reducible) only [blk_drewN, blk_drew, blk_alloc, blk_far, NB361_409.out, BK361.out]⟩, ⟨by apply_rules (transparency := .reducible) only [blk_drewN, blk_drew, blk_alloc, blk_far, NB365_409.out, BK365.out]⟩, ⟨by apply_rules (transparency := .reducible) only [blk_drewN, blk_drew, blk_alloc, blk_far, NB395_409.out, BK395.out]⟩, ⟨by (try apply_rules (transparency := .reducible) only [blk_drewN, blk_drew, blk_alloc]); refine blk_put (cs := #[.slice Ao72 t399.length co72, .slice Ao74 t402.length co74, .int .i64 t405, .int .i64 t406, .int .i64 0]) ?_ 4 _ rfl; (try apply_rules (transparency := .reducible) only [blk_drewN, blk_drew, blk_alloc]); refine blk_put (cs := #[.slice Ao72 t399.length co72, .slice Ao74 t402.length co74, .int .i64 t405, .int .i64 0, .int .i64 0]) ?_ 3 _ rfl; (try apply_rules (transparency := .reducible) only [blk_drewN, blk_drew, blk_alloc]); refine blk_put (cs := #[.slice Ao72 t399.length co72, .slice Ao74 t402.length co74, .int .i64 0, .int .i64 0, .int .i64 0]) ?_ 2 _ rfl; (try apply_rules (transparency := .reducible) only [blk_drewN, blk_drew, blk_alloc]); refine blk_put (cs := #[.slice Ao72 t399.length co72, .slice none 0 0, .int .i64 0, .int .i64 0, .int .i64 0]) ?_ 1 _ rfl; (try apply_rules (transparency := .reducible) only [blk_drewN, blk_drew, blk_alloc]); refine blk_put (cs := #[.slice none 0 0, .slice none 0 0, .int .i64 0, .int .i64 0, .int .i64 0]) ?_ 0 _ rfl; (try apply_rules (transparency := .reducible) only [blk_drewN, blk_drew, blk_alloc]); exact BK409.out⟩, ⟨by apply_rules (transparency := .reducible) only [HB.out, below_alloc, pw_below_drewN, below_drew1, below_set, GE361.out, GE365.out, GE395.out, GE409.out]⟩⟩
    case rest =>
     clear HC30
     (try clear c1); (try clear p2); (try clear c7); (try clear c10); (try clear c13); (try clear c79); (try clear c79b0); (try clear c79b1)
     obtain ⟨kq, x63_29, rfl, HA, HJ29, HO_362001, HO_366001, HO_396000, HO_396001, HO_410000, HO_410001, BK361, BK365, BK395, BK409, HB⟩ := hcut
     cases kq with
     | zero => exact absurd HA.out (by simp [splicelaw12_PlaceMore.j1])
     | succ kj29 =>
      have H := HA.out
      clear HA
      simp only [splicelaw12_PlaceMore.j1] at H
      by_cases c80 : x63_29 = true
      ·
       subst c80
       rw [if_pos rfl] at H
       by_cases c81 : t394 = 0
       ·
        rw [if_pos c81] at H
        have c81b0 : (t394 == 0) = true := beq_iff_eq.mpr c81
        have c81b1 : (t394 != 0) = false := bne_eq_false_iff_eq.mpr c81
        clear c81
        obtain rfl := Option.some.inj H
        go_wp2
        go_ret
        exact ⟨by first | rfl | (simp [errW_none, errW_some] <;> rfl) | (simp only [← hji22]; first | rfl | (simp [errW_none, errW_some] <;> rfl)) | (simp [*, errW_none, errW_some] <;> rfl), by apply_rules (transparency := .reducible) only [HB.out, below_alloc, pw_below_drewN, below_drew1, below_set, GE361.out, GE365.out, GE395.out, GE409.out]⟩
       ·
        rw [if_neg c81] at H
        have c81b0 : (t394 == 0) = false := beq_eq_false_iff_ne.mpr c81
        have c81b1 : (t394 != 0) = true := bne_iff_ne.mpr c81
        obtain rfl := Option.some.inj H
        go_wp2
        go_ret
        exact ⟨by first | rfl | (simp [errW_none, errW_some] <;> rfl) | (simp only [← hji22]; first | rfl | (simp [errW_none, errW_some] <;> rfl)) | (simp [*, errW_none, errW_some] <;> rfl), by apply_rules (transparency := .reducible) only [HB.out, below_alloc, pw_below_drewN, below_drew1, below_set, GE361.out, GE365.out, GE395.out, GE409.out]⟩
      ·
       replace c80 := Bool.eq_false_iff.mpr c80
       subst c80
       rw [if_neg Bool.false_ne_true] at H
       by_cases c82 : 0 ≤ (l0_1.length : Int)
       case neg =>
        rw [if_neg c82] at H
        exact absurd H (by simp)
       rw [if_pos c82] at H
       have c82b0 := eq_true c82
       have c82b1 : decide (0 ≤ (l0_1.length : Int)) = true := decide_eq_true c82
       clear c82
       by_cases c83 : (l0_1.length : Int) ≤ (t402.length : Int)
       case neg =>
        rw [if_neg c83] at H
        exact absurd H (by simp)
       rw [if_pos c83] at H
       have c83b0 := eq_true c83
       have c83b1 : decide ((l0_1.length : Int) ≤ (t402.length : Int)) = true := decide_eq_true c83
       clear c83
       obtain ⟨y410, hy410⟩ : ∃ y_ : List Int, y_ = (t402.take ((l0_1.length : Int) : Int).toNat) := ⟨_, rfl⟩
       (first | rw [Option.bind_some, ← hy410] at H | rw [← hy410] at H | skip)
       have Ny410 := Aside0.mk hy410
       clear hy410
       replace H := Option.bind_eq_some_iff.mp H
       obtain ⟨t415, A840, H⟩ := H
       try dsimp only at H
       have A84 := Aside0.mk A840
       clear A840
       by_cases c85 : t415 = true
       case neg =>
        replace c85 := Bool.eq_false_iff.mpr c85
        subst c85
        rw [if_neg Bool.false_ne_true] at H
        exact absurd H (by simp)
       subst c85
       rw [if_pos rfl] at H
       by_cases c86 : t393 = t407
       case neg =>
        rw [if_neg c86] at H
        have c86b0 : (t393 == t407) = false := beq_eq_false_iff_ne.mpr c86
        have c86b1 : (t393 != t407) = true := bne_iff_ne.mpr c86
        exact absurd H (by simp)
       rw [if_pos c86] at H
       have c86b0 : (t393 == t407) = true := beq_iff_eq.mpr c86
       have c86b1 : (t393 != t407) = false := bne_eq_false_iff_eq.mpr c86
       clear c86
       by_cases c87 : (l0_1.length : Int) < (t402.length : Int)
       case neg =>
        rw [if_neg c87] at H
        exact absurd H (by simp)
       rw [if_pos c87] at H
       have c87b0 : decide ((l0_1.length : Int) < (t402.length : Int)) = true := decide_eq_true c87
       have c87b1 : decide (l0_1.length < t402.length) = true := decide_eq_true (Int.ofNat_lt.mp c87)
       clear c87
       by_cases c88 : (rd t402 (l0_1.length : Int)) ≥ t392
       case neg =>
        rw [if_neg c88] at H
        have c88b0 : decide (t392 ≤ (rd t402 (l0_1.length : Int))) = false := decide_eq_false c88
        clear c88
        exact absurd H (by simp)
       rw [if_pos c88] at H
       have c88b0 : decide (t392 ≤ (rd t402 (l0_1.length : Int))) = true := decide_eq_true c88
       clear c88
       by_cases c89 : t406 = (wrap64 ((wrap64 ((rd t402 (l0_1.length : Int)) + 1)) + (wrap64 (a1))))
       case neg =>
        rw [if_neg c89] at H
        have c89b0 : (t406 == (wrap64 ((wrap64 ((rd t402 (l0_1.length : Int)) + 1)) + (wrap64 (a1))))) = false := beq_eq_false_iff_ne.mpr c89
        have c89b1 : (t406 != (wrap64 ((wrap64 ((rd t402 (l0_1.length : Int)) + 1)) + (wrap64 (a1))))) = true := bne_iff_ne.mpr c89
        exact absurd H (by simp)
       rw [if_pos c89] at H
       have c89b0 : (t406 == (wrap64 ((wrap64 ((rd t402 (l0_1.length : Int)) + 1)) + (wrap64 (a1))))) = true := beq_iff_eq.mpr c89
       have c89b1 : (t406 != (wrap64 ((wrap64 ((rd t402 (l0_1.length : Int)) + 1)) + (wrap64 (a1))))) = false := bne_eq_false_iff_eq.mpr c89
       clear c89
       replace H := Option.bind_eq_some_iff.mp H
       obtain ⟨t418, A900, H⟩ := H
       replace H : (some t418) = some r := H
       have A90 := Aside0.mk A900
       clear A900
       obtain rfl := Option.some.inj H
       have hnb91 := NB361_365.out
       have hnc91 := NB365_361.out
       have hnb92 := NB361_395.out
       have hnc92 := NB395_361.out
       have hnb93 := NB361_409.out
       have hnc93 := NB409_361.out
       obtain ⟨hcz94_0, hcz94_1, hcz94_2⟩ := blkc16_3 BK361.out
       obtain ⟨hfz94_0, hfz94_1, hfz94_2⟩ := blkf16_3 BK361.out
       try go_wp2
       have n0_ := Aside0.mk (Kd.V_drew HO_362001.out)
       have n1_ := Aside0.mk (Kd.N_drew HO_366001.out)
       have n2_ := Aside0.mk (Kd.R_drew HO_396000.out)
       have n3_ := Aside0.mk (Kd.R_drew HO_396001.out)
       have n4_ := Aside0.mk (Kd.R_drew HO_410000.out)
       have n5_ := Aside0.mk (Kd.R_drew HO_410001.out)
       have n6_ := Aside0.mk (blk_drew BK361.out)
       have n7_ := Aside0.mk (blk_drew BK365.out)
       have n8_ := Aside0.mk (blk_drew BK395.out)
       have n9_ := Aside0.mk (blk_drew BK409.out)
       have n10_ := Aside0.mk (below_drew1 HB.out)
       clear HO_362001 HO_366001 HO_396000 HO_396001 HO_410000 HO_410001 BK361 BK365 BK395 BK409 HB; have HO_362001 := n0_; have HO_366001 := n1_; have HO_396000 := n2_; have HO_396001 := n3_; have HO_410000 := n4_; have HO_410001 := n5_; have BK361 := n6_; have BK365 := n7_; have BK395 := n8_; have BK409 := n9_; have HB := n10_; clear n0_ n1_ n2_ n3_ n4_ n5_ n6_ n7_ n8_ n9_ n10_
       have q96 : ((l0_1.length : Int) : Int) ≤ ((t402.length : Int) : Int) := of_decide_eq_true (by first | (with_reducible assumption) | assumption)
       obtain ⟨i096, hi096, _, hsz96, _⟩ := info_parts info3
       have hroom96 : t402.length ≤ co74 := (Kd.R_reads' HO_410001.out).2.1
       have hC96 : Kd.F (Kd.int .i64) _ _ Ao74 t402.length t402 := (Kd.V_at (base := w.heap.size) (Kd.V_mono (ok' := (fun k_ => (((((((P0_1_ k_ ∨ w.heap.size ≤ k_) ∧ (some k_ ≠ (.slice Ao58 t385.length co58 : Value).ownBlock ∧ (some k_ ≠ (.slice Ao60 t388.length co60 : Value).ownBlock ∧ some k_ ≠ (.slice Ao72 t399.length co72 : Value).ownBlock))) ∧ some k_ ≠ (.slice Ao49 y379.length co49 : Value).ownBlock) ∧ k_ ≠ gb361) ∧ k_ ≠ gb365) ∧ k_ ≠ gb395) ∧ k_ ≠ gb409))) (Kd.R_V (Kd.R_types (Kd.R_types (Kd.R_types (Kd.R_types (Kd.R_apart' (HO_410001.out) (Kd.N_typed HO_366001.out) (by decide)) BK361.out (by decide)) BK365.out (by decide)) BK395.out (by decide)) BK409.out (by decide))) (fun k_ hk => ⟨⟨⟨⟨⟨⟨(.inr (hk.1.1.1.1.1.1)), ⟨hk.1.1.1.1.1.2.1, hk.1.1.1.1.1.2.2.1, hk.1.1.1.1.1.2.2.2⟩⟩, hk.1.1.1.1.2⟩, hk.1.1.1.2⟩, hk.1.1.2⟩, hk.1.2⟩, hk.2⟩))).2.2
       have hcut96 := cut_to (P := Try.prog) 26 3 .i64 Try.underlying26 hi096 Ao74 t402.length co74 (l0_1.length : Int) (of_decide_eq_true (by first | (with_reducible assumption) | assumption)) q96 hroom96
       have hr96 := Kd.F_take (m := ((l0_1.length : Int) : Int).toNat) hC96 (by omega)
       have hy96 : y410.length = ((l0_1.length : Int) : Int).toNat := (by rw [Ny410.out, List.length_take]; omega)
       rw [← Ny410.out] at hr96
       rw [← hy96] at hcut96
       have HO414 := Aside0.mk (show Kd.V (Kd.int .i64) 3 _ w.heap.size _ (.slice Ao74 y410.length co74) y410 from Kd.V_mk (by omega) hr96)
       have HC414 := Aside0.mk (show y410.length ≤ co74 from by omega)
       clear hr96 hC96 hroom96 hi096 hsz96
       have KY96 := Aside0.mk hy96
       clear hy96
       replace q96 := eq_true q96
       have p416 : 0 ≤ ((l0_1.length : Int) : Int) := of_decide_eq_true (by first | (with_reducible assumption) | assumption)
       have q416 : (l0_1.length : Int) < (t402.length : Int) := of_decide_eq_true (by first | (with_reducible assumption) | assumption)
       obtain ⟨ad416, e416, hx416_0⟩ := Kd.at_int (Kd.R_reads' HO_410001.out).2.2 (l0_1.length : Int) p416 q416
       cases e416
       (try simp only [Go.IntWalk.toNatUp] at hx416_0)
       replace p416 := eq_true p416
       replace q416 := eq_true q416
       have p417 : 0 ≤ ((l0_1.length : Int) : Int) := of_decide_eq_true (by first | (with_reducible assumption) | assumption)
       have q417 : (l0_1.length : Int) < (t402.length : Int) := of_decide_eq_true (by first | (with_reducible assumption) | assumption)
       obtain ⟨ad417, e417, hx417_0⟩ := Kd.at_int (Kd.R_reads' HO_410001.out).2.2 (l0_1.length : Int) p417 q417
       obtain rfl : ad416 = ad417 := (by injection e417)
       (try simp only [Go.IntWalk.toNatUp] at hx417_0)
       replace p417 := eq_true p417
       replace q417 := eq_true q417
       refine start_ (n := 46) (S := fun w' => w'.cell? ⟨gb395, 0, none⟩ = some (.slice Ao58 t385.length co58) ∧ w'.cell? ⟨gb395, 1, none⟩ = some (.slice Ao60 t388.length co60) ∧ w'.cell? ⟨gb395, 2, none⟩ = some (.int .i64 t391) ∧ w'.cell? ⟨gb395, 3, none⟩ = some (.int .i64 t392) ∧ w'.cell? ⟨gb395, 4, none⟩ = some (.int .i64 t393) ∧ w'.cell? ⟨gb409, 0, none⟩ = some (.slice Ao72 t399.length co72) ∧ w'.cell? ⟨gb409, 1, none⟩ = some (.slice (some ad416) t402.length co74) ∧ w'.cell? ⟨gb409, 2, none⟩ = some (.int .i64 t405) ∧ w'.cell? ⟨gb409, 3, none⟩ = some (.int .i64 t406) ∧ w'.cell? ⟨gb409, 4, none⟩ = some (.int .i64 t407) ∧ w'.cell? (ad416.add l0_1.length) = some (.int .i64 (rd t402 (l0_1.length : Int))) ∧ w'.cell? (ad416.add l0_1.length) = some (.int .i64 (rd t402 (l0_1.length : Int)))) (ds := []) #[fF,fF,fF,fF,fF,fF,fF,fF,fF,fF,fF,fF,fF,fF,fF,fF,fF,fF,fF,fF,fF,fF,fF,fF,fF,fF,fF,fF,fF,fF,fF,fF,fF,fF,fF,fF,fF,fF,fF,fF,fF,fF,fF,fF,fF,fF] (by kernel_rfl) rfl rfl ⟨(blk_cell BK395.out 0).trans rfl, (blk_cell BK395.out 1).trans rfl, (blk_cell BK395.out 2).trans rfl, (blk_cell BK395.out 3).trans rfl, (blk_cell BK395.out 4).trans rfl, (blk_cell BK409.out 0).trans rfl, (blk_cell BK409.out 1).trans rfl, (blk_cell BK409.out 2).trans rfl, (blk_cell BK409.out 3).trans rfl, (blk_cell BK409.out 4).trans rfl, hx416_0, hx417_0⟩ (fun hHeld => ?_); refine with_tabW splicelaw12_PlaceMore.tab10 splicelaw12_PlaceMore.bits10 (fun HT_ HW_ => ?_)
       generalize wc.drew = w95 at HO_362001 HO_366001 HO_396000 HO_396001 HO_410000 HO_410001 BK361 BK365 BK395 BK409 HB HO414 hx416_0 hx417_0 hHeld ⊢
       refine pure_ (i := 0) (N := some 73) (v := ?_) (a' := ?_) #[tT,fF,fF,fF,fF,fF,fF,fF,fF,fF,fF,fF,fF,fF,fF,fF,fF,fF,fF,fF,fF,fF,fF,fF,fF,fF,fF,fF,fF,fF,fF,fF,fF,fF,fF,fF,fF,fF,fF,fF,fF,fF,fF,fF,fF,fF] rfl rfl (any_of HT_.out (by kernel_rfl)) (fun _ _ _ h => h) (Or.inl ⟨by rfl, ?_⟩) ?_ ?_
       rotate_left; (intro w'; go_simp; with_reducible rfl); rotate_left; (simp only [Act.put, List.setIfInBounds_toArray, List.set_cons_zero, List.set_cons_succ, i64_w, i32_w]; rfl)
       refine pure_ (i := 2) (N := some 75) (v := ?_) (a' := ?_) #[tT,fF,tT,fF,fF,fF,fF,fF,fF,fF,fF,fF,fF,fF,fF,fF,fF,fF,fF,fF,fF,fF,fF,fF,fF,fF,fF,fF,fF,fF,fF,fF,fF,fF,fF,fF,fF,fF,fF,fF,fF,fF,fF,fF,fF,fF] rfl rfl (any_of HT_.out (by kernel_rfl)) (fun _ _ _ h => h) (Or.inl ⟨by rfl, ?_⟩) ?_ ?_
       rotate_left; (intro w'; go_simp; with_reducible rfl); rotate_left; (simp only [Act.put, List.setIfInBounds_toArray, List.set_cons_zero, List.set_cons_succ, i64_w, i32_w]; rfl)
       refine pure_ (i := 4) (N := some 77) (v := ?_) (a' := ?_) #[tT,fF,tT,fF,tT,fF,fF,fF,fF,fF,fF,fF,fF,fF,fF,fF,fF,fF,fF,fF,fF,fF,fF,fF,fF,fF,fF,fF,fF,fF,fF,fF,fF,fF,fF,fF,fF,fF,fF,fF,fF,fF,fF,fF,fF,fF] rfl rfl (any_of HT_.out (by kernel_rfl)) (fun _ _ _ h => h) (Or.inl ⟨by rfl, ?_⟩) ?_ ?_
       rotate_left; (intro w'; go_simp; with_reducible rfl); rotate_left; (simp only [Act.put, List.setIfInBounds_toArray, List.set_cons_zero, List.set_cons_succ, i64_w, i32_w]; rfl)
       refine take_ (i := 1) (N := some 74) (v := ?_) (a' := ?_) #[tT,tT,tT,fF,tT,fF,fF,fF,fF,fF,fF,fF,fF,fF,fF,fF,fF,fF,fF,fF,fF,fF,fF,fF,fF,fF,fF,fF,fF,fF,fF,fF,fF,fF,fF,fF,fF,fF,fF,fF,fF,fF,fF,fF,fF,fF] rfl rfl (take_ofW HT_.out HW_.out (by kernel_rfl)) (fun _ _ _ h => h) (Or.inl ⟨by rfl, ?_⟩) hHeld ?_ ?_
       rotate_left; (rintro w' ⟨s0, s1, s2, s3, s4, s5, s6, s7, s8, s9, s10, s11⟩; go_simp; with_reducible rfl); rotate_left; (simp only [Act.put, List.setIfInBounds_toArray, List.set_cons_zero, List.set_cons_succ, i64_w, i32_w]; rfl)
       refine take_ (i := 3) (N := some 76) (v := ?_) (a' := ?_) #[tT,tT,tT,tT,tT,fF,fF,fF,fF,fF,fF,fF,fF,fF,fF,fF,fF,fF,fF,fF,fF,fF,fF,fF,fF,fF,fF,fF,fF,fF,fF,fF,fF,fF,fF,fF,fF,fF,fF,fF,fF,fF,fF,fF,fF,fF] rfl rfl (take_ofW HT_.out HW_.out (by kernel_rfl)) (fun _ _ _ h => h) (Or.inl ⟨by rfl, ?_⟩) hHeld ?_ ?_
       rotate_left; (rintro w' ⟨s0, s1, s2, s3, s4, s5, s6, s7, s8, s9, s10, s11⟩; go_simp; with_reducible rfl); rotate_left; (simp only [Act.put, List.setIfInBounds_toArray, List.set_cons_zero, List.set_cons_succ, i64_w, i32_w]; rfl)
       refine pure_ (i := 5) (N := some 78) (v := ?_) (a' := ?_) #[tT,tT,tT,tT,tT,tT,fF,fF,fF,fF,fF,fF,fF,fF,fF,fF,fF,fF,fF,fF,fF,fF,fF,fF,fF,fF,fF,fF,fF,fF,fF,fF,fF,fF,fF,fF,fF,fF,fF,fF,fF,fF,fF,fF,fF,fF] rfl rfl (any_of HT_.out (by kernel_rfl)) (fun _ _ _ h => h) (Or.inl ⟨by rfl, ?_⟩) ?_ ?_
       rotate_left; (intro w'; go_simp; with_reducible rfl); rotate_left; (simp only [Act.put, List.setIfInBounds_toArray, List.set_cons_zero, List.set_cons_succ, i64_w, i32_w]; rfl)
       refine one_ (i := 6) (N := some 79) #[tT,tT,tT,tT,tT,tT,tT,fF,fF,fF,fF,fF,fF,fF,fF,fF,fF,fF,fF,fF,fF,fF,fF,fF,fF,fF,fF,fF,fF,fF,fF,fF,fF,fF,fF,fF,fF,fF,fF,fF,fF,fF,fF,fF,fF,fF] rfl rfl (one_of HT_.out (by kernel_rfl)) (by decide) (fun K hK => ?_)
       refine goes_ Try.func14 (by kernel_rfl) rfl #[.slice Ao60 t388.length co60, .slice (some ad416) y410.length co74] (by rfl) rfl rfl (by (try simp only [List.map_toArray, List.map_cons, List.map_nil]); first | done | rfl | (simp only [List.length_drop, List.length_take]; rfl)) ?_
       with_reducible refine (spliceref03_Ints.calls kj29 _ _ t388 _ _ y410 true _ ?side1 ?side2 ?side3 ?side4 A84.out).mono ?_
       (case side1 => repeat (first | exact (Kd.R_reads' HO_396001.out).2.2 | (with_reducible refine Kd.C_alloc ?_ _) | (with_reducible refine Kd.C_drewN ?_ _) | (with_reducible refine Kd.C_drew ?_)))
       (case side2 => exact (Kd.R_reads' HO_396001.out).2.1)
       (case side3 => repeat (first | exact (Kd.V_reads' HO414.out).2.2 | (with_reducible refine Kd.C_alloc ?_ _) | (with_reducible refine Kd.C_drewN ?_ _) | (with_reducible refine Kd.C_drew ?_)))
       (case side4 => exact (Kd.V_reads' HO414.out).2.1)
       rintro e w' ⟨rfl, ⟨nd, rfl⟩⟩
       refine ⟨_, rfl, ?_⟩
       refine hK.out _ _ ⟨(blk_cell BK395.out 0).trans rfl, (blk_cell BK395.out 1).trans rfl, (blk_cell BK395.out 2).trans rfl, (blk_cell BK395.out 3).trans rfl, (blk_cell BK395.out 4).trans rfl, (blk_cell BK409.out 0).trans rfl, (blk_cell BK409.out 1).trans rfl, (blk_cell BK409.out 2).trans rfl, (blk_cell BK409.out 3).trans rfl, (blk_cell BK409.out 4).trans rfl, hHeld.2.2.2.2.2.2.2.2.2.2.1, hHeld.2.2.2.2.2.2.2.2.2.2.2⟩ (fun hHeld => ?_)
       clear hK K
       refine norm_ (a' := ?_) ?_ ?_
       rotate_left; (show Act.put _ (some 79) _ = _; simp only [Act.put, List.setIfInBounds_toArray, List.set_cons_zero, List.set_cons_succ, i64_w, i32_w]; rfl)
       refine pure_ (i := 7) (N := some 80) (v := ?_) (a' := ?_) #[tT,tT,tT,tT,tT,tT,tT,tT,fF,fF,fF,fF,fF,fF,fF,fF,fF,fF,fF,fF,fF,fF,fF,fF,fF,fF,fF,fF,fF,fF,fF,fF,fF,fF,fF,fF,fF,fF,fF,fF,fF,fF,fF,fF,fF,fF] rfl rfl (any_of HT_.out (by kernel_rfl)) (fun _ _ _ h => h) (Or.inl ⟨by rfl, ?_⟩) ?_ ?_
       rotate_left; (intro w'; go_simp; with_reducible rfl); rotate_left; (simp only [Act.put, List.setIfInBounds_toArray, List.set_cons_zero, List.set_cons_succ, i64_w, i32_w]; rfl)
       refine pure_ (i := 8) (N := some 81) (v := ?_) (a' := ?_) #[tT,tT,tT,tT,tT,tT,tT,tT,tT,fF,fF,fF,fF,fF,fF,fF,fF,fF,fF,fF,fF,fF,fF,fF,fF,fF,fF,fF,fF,fF,fF,fF,fF,fF,fF,fF,fF,fF,fF,fF,fF,fF,fF,fF,fF,fF] rfl rfl (any_of HT_.out (by kernel_rfl)) (fun _ _ _ h => h) (Or.inl ⟨by rfl, ?_⟩) ?_ ?_
       rotate_left; (intro w'; go_simp; with_reducible rfl); rotate_left; (simp only [Act.put, List.setIfInBounds_toArray, List.set_cons_zero, List.set_cons_succ, i64_w, i32_w]; rfl)
       refine pure_ (i := 10) (N := some 83) (v := ?_) (a' := ?_) #[tT,tT,tT,tT,tT,tT,tT,tT,tT,fF,tT,fF,fF,fF,fF,fF,fF,fF,fF,fF,fF,fF,fF,fF,fF,fF,fF,fF,fF,fF,fF,fF,fF,fF,fF,fF,fF,fF,fF,fF,fF,fF,fF,fF,fF,fF] rfl rfl (any_of HT_.out (by kernel_rfl)) (fun _ _ _ h => h) (Or.inl ⟨by rfl, ?_⟩) ?_ ?_
       rotate_left; (intro w'; go_simp; with_reducible rfl); rotate_left; (simp only [Act.put, List.setIfInBounds_toArray, List.set_cons_zero, List.set_cons_succ, i64_w, i32_w]; rfl)
       refine take_ (i := 9) (N := some 82) (v := ?_) (a' := ?_) #[tT,tT,tT,tT,tT,tT,tT,tT,tT,tT,tT,fF,fF,fF,fF,fF,fF,fF,fF,fF,fF,fF,fF,fF,fF,fF,fF,fF,fF,fF,fF,fF,fF,fF,fF,fF,fF,fF,fF,fF,fF,fF,fF,fF,fF,fF] rfl rfl (take_ofW HT_.out HW_.out (by kernel_rfl)) (fun _ _ _ h => h) (Or.inl ⟨by rfl, ?_⟩) hHeld ?_ ?_
       rotate_left; (rintro w' ⟨s0, s1, s2, s3, s4, s5, s6, s7, s8, s9, s10, s11⟩; go_simp; with_reducible rfl); rotate_left; (simp only [Act.put, List.setIfInBounds_toArray, List.set_cons_zero, List.set_cons_succ, i64_w, i32_w]; rfl)
       refine take_ (i := 11) (N := some 84) (v := ?_) (a' := ?_) #[tT,tT,tT,tT,tT,tT,tT,tT,tT,tT,tT,tT,fF,fF,fF,fF,fF,fF,fF,fF,fF,fF,fF,fF,fF,fF,fF,fF,fF,fF,fF,fF,fF,fF,fF,fF,fF,fF,fF,fF,fF,fF,fF,fF,fF,fF] rfl rfl (take_ofW HT_.out HW_.out (by kernel_rfl)) (fun _ _ _ h => h) (Or.inl ⟨by rfl, ?_⟩) hHeld ?_ ?_
       rotate_left; (rintro w' ⟨s0, s1, s2, s3, s4, s5, s6, s7, s8, s9, s10, s11⟩; go_simp; with_reducible rfl); rotate_left; (simp only [Act.put, List.setIfInBounds_toArray, List.set_cons_zero, List.set_cons_succ, i64_w, i32_w]; rfl)
       refine pure_ (i := 12) (N := some 85) (v := ?_) (a' := ?_) #[tT,tT,tT,tT,tT,tT,tT,tT,tT,tT,tT,tT,tT,fF,fF,fF,fF,fF,fF,fF,fF,fF,fF,fF,fF,fF,fF,fF,fF,fF,fF,fF,fF,fF,fF,fF,fF,fF,fF,fF,fF,fF,fF,fF,fF,fF] rfl rfl (any_of HT_.out (by kernel_rfl)) (fun _ _ _ h => h) (Or.inl ⟨by rfl, ?_⟩) ?_ ?_
       rotate_left; (intro w'; go_simp; with_reducible rfl); rotate_left; (simp only [Act.put, List.setIfInBounds_toArray, List.set_cons_zero, List.set_cons_succ, i64_w, i32_w]; rfl)
       refine pure_ (i := 13) (N := some 86) (v := ?_) (a' := ?_) #[tT,tT,tT,tT,tT,tT,tT,tT,tT,tT,tT,tT,tT,tT,fF,fF,fF,fF,fF,fF,fF,fF,fF,fF,fF,fF,fF,fF,fF,fF,fF,fF,fF,fF,fF,fF,fF,fF,fF,fF,fF,fF,fF,fF,fF,fF] rfl rfl (any_of HT_.out (by kernel_rfl)) (fun _ _ _ h => h) (Or.inl ⟨by rfl, ?_⟩) ?_ ?_
       rotate_left; (intro w'; go_simp; with_reducible rfl); rotate_left; (simp only [Act.put, List.setIfInBounds_toArray, List.set_cons_zero, List.set_cons_succ, i64_w, i32_w]; rfl)
       refine pure_ (i := 14) (N := some 87) (v := ?_) (a' := ?_) #[tT,tT,tT,tT,tT,tT,tT,tT,tT,tT,tT,tT,tT,tT,tT,fF,fF,fF,fF,fF,fF,fF,fF,fF,fF,fF,fF,fF,fF,fF,fF,fF,fF,fF,fF,fF,fF,fF,fF,fF,fF,fF,fF,fF,fF,fF] rfl rfl (any_of HT_.out (by kernel_rfl)) (fun _ _ _ h => h) (Or.inl ⟨by rfl, ?_⟩) ?_ ?_
       rotate_left; (intro w'; go_simp; with_reducible rfl); rotate_left; (simp only [Act.put, List.setIfInBounds_toArray, List.set_cons_zero, List.set_cons_succ, i64_w, i32_w]; rfl)
       refine pure_ (i := 15) (N := some 88) (v := ?_) (a' := ?_) #[tT,tT,tT,tT,tT,tT,tT,tT,tT,tT,tT,tT,tT,tT,tT,tT,fF,fF,fF,fF,fF,fF,fF,fF,fF,fF,fF,fF,fF,fF,fF,fF,fF,fF,fF,fF,fF,fF,fF,fF,fF,fF,fF,fF,fF,fF] rfl rfl (any_of HT_.out (by kernel_rfl)) (fun _ _ _ h => h) (Or.inl ⟨by rfl, ?_⟩) ?_ ?_
       rotate_left; (intro w'; go_simp; with_reducible rfl); rotate_left; (simp only [Act.put, List.setIfInBounds_toArray, List.set_cons_zero, List.set_cons_succ, i64_w, i32_w]; rfl)
       refine pure_ (i := 17) (N := some 90) (v := ?_) (a' := ?_) #[tT,tT,tT,tT,tT,tT,tT,tT,tT,tT,tT,tT,tT,tT,tT,tT,fF,tT,fF,fF,fF,fF,fF,fF,fF,fF,fF,fF,fF,fF,fF,fF,fF,fF,fF,fF,fF,fF,fF,fF,fF,fF,fF,fF,fF,fF] rfl rfl (any_of HT_.out (by kernel_rfl)) (fun _ _ _ h => h) (Or.inl ⟨by rfl, ?_⟩) ?_ ?_
       rotate_left; (intro w'; go_simp; with_reducible rfl); rotate_left; (simp only [Act.put, List.setIfInBounds_toArray, List.set_cons_zero, List.set_cons_succ, i64_w, i32_w]; rfl)
       refine pure_ (i := 20) (N := some 93) (v := ?_) (a' := ?_) #[tT,tT,tT,tT,tT,tT,tT,tT,tT,tT,tT,tT,tT,tT,tT,tT,fF,tT,fF,fF,tT,fF,fF,fF,fF,fF,fF,fF,fF,fF,fF,fF,fF,fF,fF,fF,fF,fF,fF,fF,fF,fF,fF,fF,fF,fF] rfl rfl (any_of HT_.out (by kernel_rfl)) (fun _ _ _ h => h) (Or.inl ⟨by rfl, ?_⟩) ?_ ?_
       rotate_left; (intro w'; go_simp; with_reducible rfl); rotate_left; (simp only [Act.put, List.setIfInBounds_toArray, List.set_cons_zero, List.set_cons_succ, i64_w, i32_w]; rfl)
       refine take_ (i := 16) (N := some 89) (v := ?_) (a' := ?_) #[tT,tT,tT,tT,tT,tT,tT,tT,tT,tT,tT,tT,tT,tT,tT,tT,tT,tT,fF,fF,tT,fF,fF,fF,fF,fF,fF,fF,fF,fF,fF,fF,fF,fF,fF,fF,fF,fF,fF,fF,fF,fF,fF,fF,fF,fF] rfl rfl (take_ofW HT_.out HW_.out (by kernel_rfl)) (fun _ _ _ h => h) (Or.inl ⟨by rfl, ?_⟩) hHeld ?_ ?_
       rotate_left; (rintro w' ⟨s0, s1, s2, s3, s4, s5, s6, s7, s8, s9, s10, s11⟩; go_simp; with_reducible rfl); rotate_left; (simp only [Act.put, List.setIfInBounds_toArray, List.set_cons_zero, List.set_cons_succ, i64_w, i32_w]; rfl)
       refine pure_ (i := 18) (N := some 91) (v := ?_) (a' := ?_) #[tT,tT,tT,tT,tT,tT,tT,tT,tT,tT,tT,tT,tT,tT,tT,tT,tT,tT,tT,fF,tT,fF,fF,fF,fF,fF,fF,fF,fF,fF,fF,fF,fF,fF,fF,fF,fF,fF,fF,fF,fF,fF,fF,fF,fF,fF] rfl rfl (any_of HT_.out (by kernel_rfl)) (fun _ _ _ h => h) (Or.inl ⟨by rfl, ?_⟩) ?_ ?_
       rotate_left; (intro w'; go_simp; with_reducible rfl); rotate_left; (simp only [Act.put, List.setIfInBounds_toArray, List.set_cons_zero, List.set_cons_succ, i64_w, i32_w]; rfl)
       refine take_ (i := 19) (N := some 92) (v := ?_) (a' := ?_) #[tT,tT,tT,tT,tT,tT,tT,tT,tT,tT,tT,tT,tT,tT,tT,tT,tT,tT,tT,tT,tT,fF,fF,fF,fF,fF,fF,fF,fF,fF,fF,fF,fF,fF,fF,fF,fF,fF,fF,fF,fF,fF,fF,fF,fF,fF] rfl rfl (take_ofW HT_.out HW_.out (by kernel_rfl)) (fun _ _ _ h => h) (Or.inl ⟨by rfl, ?_⟩) hHeld ?_ ?_
       rotate_left; (rintro w' ⟨s0, s1, s2, s3, s4, s5, s6, s7, s8, s9, s10, s11⟩; go_simp; with_reducible rfl); rotate_left; (simp only [Act.put, List.setIfInBounds_toArray, List.set_cons_zero, List.set_cons_succ, i64_w, i32_w]; rfl)
       refine take_ (i := 21) (N := some 94) (v := ?_) (a' := ?_) #[tT,tT,tT,tT,tT,tT,tT,tT,tT,tT,tT,tT,tT,tT,tT,tT,tT,tT,tT,tT,tT,tT,fF,fF,fF,fF,fF,fF,fF,fF,fF,fF,fF,fF,fF,fF,fF,fF,fF,fF,fF,fF,fF,fF,fF,fF] rfl rfl (take_ofW HT_.out HW_.out (by kernel_rfl)) (fun _ _ _ h => h) (Or.inl ⟨by rfl, ?_⟩) hHeld ?_ ?_
       rotate_left; (rintro w' ⟨s0, s1, s2, s3, s4, s5, s6, s7, s8, s9, s10, s11⟩; go_simp; with_reducible rfl); rotate_left; (simp only [Act.put, List.setIfInBounds_toArray, List.set_cons_zero, List.set_cons_succ, i64_w, i32_w]; rfl)
       refine pure_ (i := 22) (N := some 95) (v := ?_) (a' := ?_) #[tT,tT,tT,tT,tT,tT,tT,tT,tT,tT,tT,tT,tT,tT,tT,tT,tT,tT,tT,tT,tT,tT,tT,fF,fF,fF,fF,fF,fF,fF,fF,fF,fF,fF,fF,fF,fF,fF,fF,fF,fF,fF,fF,fF,fF,fF] rfl rfl (any_of HT_.out (by kernel_rfl)) (fun _ _ _ h => h) (Or.inl ⟨by rfl, ?_⟩) ?_ ?_
       rotate_left; (intro w'; go_simp; with_reducible rfl); rotate_left; (simp only [Act.put, List.setIfInBounds_toArray, List.set_cons_zero, List.set_cons_succ, i64_w, i32_w]; rfl)
       refine pure_ (i := 23) (N := some 96) (v := ?_) (a' := ?_) #[tT,tT,tT,tT,tT,tT,tT,tT,tT,tT,tT,tT,tT,tT,tT,tT,tT,tT,tT,tT,tT,tT,tT,tT,fF,fF,fF,fF,fF,fF,fF,fF,fF,fF,fF,fF,fF,fF,fF,fF,fF,fF,fF,fF,fF,fF] rfl rfl (any_of HT_.out (by kernel_rfl)) (fun _ _ _ h => h) (Or.inl ⟨by rfl, ?_⟩) ?_ ?_
       rotate_left; (intro w'; go_simp; with_reducible rfl); rotate_left; (simp only [Act.put, List.setIfInBounds_toArray, List.set_cons_zero, List.set_cons_succ, i64_w, i32_w]; rfl)
       refine pure_ (i := 24) (N := some 97) (v := ?_) (a' := ?_) #[tT,tT,tT,tT,tT,tT,tT,tT,tT,tT,tT,tT,tT,tT,tT,tT,tT,tT,tT,tT,tT,tT,tT,tT,tT,fF,fF,fF,fF,fF,fF,fF,fF,fF,fF,fF,fF,fF,fF,fF,fF,fF,fF,fF,fF,fF] rfl rfl (any_of HT_.out (by kernel_rfl)) (fun _ _ _ h => h) (Or.inl ⟨by rfl, ?_⟩) ?_ ?_
       rotate_left; (intro w'; go_simp; with_reducible rfl); rotate_left; (simp only [Act.put, List.setIfInBounds_toArray, List.set_cons_zero, List.set_cons_succ, i64_w, i32_w]; rfl)
       refine pure_ (i := 25) (N := some 98) (v := ?_) (a' := ?_) #[tT,tT,tT,tT,tT,tT,tT,tT,tT,tT,tT,tT,tT,tT,tT,tT,tT,tT,tT,tT,tT,tT,tT,tT,tT,tT,fF,fF,fF,fF,fF,fF,fF,fF,fF,fF,fF,fF,fF,fF,fF,fF,fF,fF,fF,fF] rfl rfl (any_of HT_.out (by kernel_rfl)) (fun _ _ _ h => h) (Or.inl ⟨by rfl, ?_⟩) ?_ ?_
       rotate_left; (intro w'; go_simp; with_reducible rfl); rotate_left; (simp only [Act.put, List.setIfInBounds_toArray, List.set_cons_zero, List.set_cons_succ, i64_w, i32_w]; rfl)
       refine pure_ (i := 27) (N := some 100) (v := ?_) (a' := ?_) #[tT,tT,tT,tT,tT,tT,tT,tT,tT,tT,tT,tT,tT,tT,tT,tT,tT,tT,tT,tT,tT,tT,tT,tT,tT,tT,fF,tT,fF,fF,fF,fF,fF,fF,fF,fF,fF,fF,fF,fF,fF,fF,fF,fF,fF,fF] rfl rfl (any_of HT_.out (by kernel_rfl)) (fun _ _ _ h => h) (Or.inl ⟨by rfl, ?_⟩) ?_ ?_
       rotate_left; (intro w'; go_simp; with_reducible rfl); rotate_left; (simp only [Act.put, List.setIfInBounds_toArray, List.set_cons_zero, List.set_cons_succ, i64_w, i32_w]; rfl)
       refine pure_ (i := 29) (N := some 102) (v := ?_) (a' := ?_) #[tT,tT,tT,tT,tT,tT,tT,tT,tT,tT,tT,tT,tT,tT,tT,tT,tT,tT,tT,tT,tT,tT,tT,tT,tT,tT,fF,tT,fF,tT,fF,fF,fF,fF,fF,fF,fF,fF,fF,fF,fF,fF,fF,fF,fF,fF] rfl rfl (any_of HT_.out (by kernel_rfl)) (fun _ _ _ h => h) (Or.inl ⟨by rfl, ?_⟩) ?_ ?_
       rotate_left; (intro w'; go_simp; with_reducible rfl); rotate_left; (simp only [Act.put, List.setIfInBounds_toArray, List.set_cons_zero, List.set_cons_succ, i64_w, i32_w]; rfl)
       refine pure_ (i := 33) (N := some 106) (v := ?_) (a' := ?_) #[tT,tT,tT,tT,tT,tT,tT,tT,tT,tT,tT,tT,tT,tT,tT,tT,tT,tT,tT,tT,tT,tT,tT,tT,tT,tT,fF,tT,fF,tT,fF,fF,fF,tT,fF,fF,fF,fF,fF,fF,fF,fF,fF,fF,fF,fF] rfl rfl (any_of HT_.out (by kernel_rfl)) (fun _ _ _ h => h) (Or.inl ⟨by rfl, ?_⟩) ?_ ?_
       rotate_left; (intro w'; go_simp; with_reducible rfl); rotate_left; (simp only [Act.put, List.setIfInBounds_toArray, List.set_cons_zero, List.set_cons_succ, i64_w, i32_w]; rfl)
       refine pure_ (i := 34) (N := some 107) (v := ?_) (a' := ?_) #[tT,tT,tT,tT,tT,tT,tT,tT,tT,tT,tT,tT,tT,tT,tT,tT,tT,tT,tT,tT,tT,tT,tT,tT,tT,tT,fF,tT,fF,tT,fF,fF,fF,tT,tT,fF,fF,fF,fF,fF,fF,fF,fF,fF,fF,fF] rfl rfl (any_of HT_.out (by kernel_rfl)) (fun _ _ _ h => h) (Or.inl ⟨by rfl, ?_⟩) ?_ ?_
       rotate_left; (intro w'; go_simp; with_reducible rfl); rotate_left; (simp only [Act.put, List.setIfInBounds_toArray, List.set_cons_zero, List.set_cons_succ, i64_w, i32_w]; rfl)
       refine take_ (i := 26) (N := some 99) (v := ?_) (a' := ?_) #[tT,tT,tT,tT,tT,tT,tT,tT,tT,tT,tT,tT,tT,tT,tT,tT,tT,tT,tT,tT,tT,tT,tT,tT,tT,tT,tT,tT,fF,tT,fF,fF,fF,tT,tT,fF,fF,fF,fF,fF,fF,fF,fF,fF,fF,fF] rfl rfl (take_ofW HT_.out HW_.out (by kernel_rfl)) (fun _ _ _ h => h) (Or.inl ⟨by rfl, ?_⟩) hHeld ?_ ?_
       rotate_left; (rintro w' ⟨s0, s1, s2, s3, s4, s5, s6, s7, s8, s9, s10, s11⟩; go_simp; with_reducible rfl); rotate_left; (simp only [Act.put, List.setIfInBounds_toArray, List.set_cons_zero, List.set_cons_succ, i64_w, i32_w]; rfl)
       refine take_ (i := 28) (N := some 101) (v := ?_) (a' := ?_) #[tT,tT,tT,tT,tT,tT,tT,tT,tT,tT,tT,tT,tT,tT,tT,tT,tT,tT,tT,tT,tT,tT,tT,tT,tT,tT,tT,tT,tT,tT,fF,fF,fF,tT,tT,fF,fF,fF,fF,fF,fF,fF,fF,fF,fF,fF] rfl rfl (take_ofW HT_.out HW_.out (by kernel_rfl)) (fun _ _ _ h => h) (Or.inl ⟨by rfl, ?_⟩) hHeld ?_ ?_
       rotate_left; (rintro w' ⟨s0, s1, s2, s3, s4, s5, s6, s7, s8, s9, s10, s11⟩; go_simp; with_reducible rfl); rotate_left; (simp only [Act.put, List.setIfInBounds_toArray, List.set_cons_zero, List.set_cons_succ, i64_w, i32_w]; rfl)
       refine pure_ (i := 30) (N := some 103) (v := ?_) (a' := ?_) #[tT,tT,tT,tT,tT,tT,tT,tT,tT,tT,tT,tT,tT,tT,tT,tT,tT,tT,tT,tT,tT,tT,tT,tT,tT,tT,tT,tT,tT,tT,tT,fF,fF,tT,tT,fF,fF,fF,fF,fF,fF,fF,fF,fF,fF,fF] rfl rfl (any_of HT_.out (by kernel_rfl)) (fun _ _ _ h => h) (Or.inl ⟨by rfl, ?_⟩) ?_ ?_
       rotate_left; (intro w'; go_simp; with_reducible rfl); rotate_left; (simp only [Act.put, List.setIfInBounds_toArray, List.set_cons_zero, List.set_cons_succ, i64_w, i32_w]; rfl)
       refine take_ (i := 31) (N := some 104) (v := ?_) (a' := ?_) #[tT,tT,tT,tT,tT,tT,tT,tT,tT,tT,tT,tT,tT,tT,tT,tT,tT,tT,tT,tT,tT,tT,tT,tT,tT,tT,tT,tT,tT,tT,tT,tT,fF,tT,tT,fF,fF,fF,fF,fF,fF,fF,fF,fF,fF,fF] rfl rfl (take_ofW HT_.out HW_.out (by kernel_rfl)) (fun _ _ _ h => h) (Or.inl ⟨by rfl, ?_⟩) hHeld ?_ ?_
       rotate_left; (rintro w' ⟨s0, s1, s2, s3, s4, s5, s6, s7, s8, s9, s10, s11⟩; go_simp; with_reducible rfl); rotate_left; (simp only [Act.put, List.setIfInBounds_toArray, List.set_cons_zero, List.set_cons_succ, i64_w, i32_w]; rfl)
       refine pure_ (i := 32) (N := some 105) (v := ?_) (a' := ?_) #[tT,tT,tT,tT,tT,tT,tT,tT,tT,tT,tT,tT,tT,tT,tT,tT,tT,tT,tT,tT,tT,tT,tT,tT,tT,tT,tT,tT,tT,tT,tT,tT,tT,tT,tT,fF,fF,fF,fF,fF,fF,fF,fF,fF,fF,fF] rfl rfl (any_of HT_.out (by kernel_rfl)) (fun _ _ _ h => h) (Or.inl ⟨by rfl, ?_⟩) ?_ ?_
       rotate_left; (intro w'; go_simp; with_reducible rfl); rotate_left; (simp only [Act.put, List.setIfInBounds_toArray, List.set_cons_zero, List.set_cons_succ, i64_w, i32_w]; rfl)
       refine pure_ (i := 35) (N := some 108) (v := ?_) (a' := ?_) #[tT,tT,tT,tT,tT,tT,tT,tT,tT,tT,tT,tT,tT,tT,tT,tT,tT,tT,tT,tT,tT,tT,tT,tT,tT,tT,tT,tT,tT,tT,tT,tT,tT,tT,tT,tT,fF,fF,fF,fF,fF,fF,fF,fF,fF,fF] rfl rfl (any_of HT_.out (by kernel_rfl)) (fun _ _ _ h => h) (Or.inl ⟨by rfl, ?_⟩) ?_ ?_
       rotate_left; (intro w'; go_simp; with_reducible rfl); rotate_left; (simp only [Act.put, List.setIfInBounds_toArray, List.set_cons_zero, List.set_cons_succ, i64_w, i32_w]; rfl)
       refine pure_ (i := 36) (N := some 109) (v := ?_) (a' := ?_) #[tT,tT,tT,tT,tT,tT,tT,tT,tT,tT,tT,tT,tT,tT,tT,tT,tT,tT,tT,tT,tT,tT,tT,tT,tT,tT,tT,tT,tT,tT,tT,tT,tT,tT,tT,tT,tT,fF,fF,fF,fF,fF,fF,fF,fF,fF] rfl rfl (any_of HT_.out (by kernel_rfl)) (fun _ _ _ h => h) (Or.inl ⟨by rfl, ?_⟩) ?_ ?_
       rotate_left; (intro w'; go_simp; with_reducible rfl); rotate_left; (simp only [Act.put, List.setIfInBounds_toArray, List.set_cons_zero, List.set_cons_succ, i64_w, i32_w]; rfl)
       refine pure_ (i := 37) (N := some 110) (v := ?_) (a' := ?_) #[tT,tT,tT,tT,tT,tT,tT,tT,tT,tT,tT,tT,tT,tT,tT,tT,tT,tT,tT,tT,tT,tT,tT,tT,tT,tT,tT,tT,tT,tT,tT,tT,tT,tT,tT,tT,tT,tT,fF,fF,fF,fF,fF,fF,fF,fF] rfl rfl (any_of HT_.out (by kernel_rfl)) (fun _ _ _ h => h) (Or.inl ⟨by rfl, ?_⟩) ?_ ?_
       rotate_left; (intro w'; go_simp; with_reducible rfl); rotate_left; (simp only [Act.put, List.setIfInBounds_toArray, List.set_cons_zero, List.set_cons_succ, i64_w, i32_w]; rfl)
       refine pure_ (i := 38) (N := some 111) (v := ?_) (a' := ?_) #[tT,tT,tT,tT,tT,tT,tT,tT,tT,tT,tT,tT,tT,tT,tT,tT,tT,tT,tT,tT,tT,tT,tT,tT,tT,tT,tT,tT,tT,tT,tT,tT,tT,tT,tT,tT,tT,tT,tT,fF,fF,fF,fF,fF,fF,fF] rfl rfl (any_of HT_.out (by kernel_rfl)) (fun _ _ _ h => h) (Or.inl ⟨by rfl, ?_⟩) ?_ ?_
       rotate_left; (intro w'; go_simp; with_reducible rfl); rotate_left; (simp only [Act.put, List.setIfInBounds_toArray, List.set_cons_zero, List.set_cons_succ, i64_w, i32_w]; rfl)
       refine pure_ (i := 39) (N := some 112) (v := ?_) (a' := ?_) #[tT,tT,tT,tT,tT,tT,tT,tT,tT,tT,tT,tT,tT,tT,tT,tT,tT,tT,tT,tT,tT,tT,tT,tT,tT,tT,tT,tT,tT,tT,tT,tT,tT,tT,tT,tT,tT,tT,tT,tT,fF,fF,fF,fF,fF,fF] rfl rfl (any_of HT_.out (by kernel_rfl)) (fun _ _ _ h => h) (Or.inl ⟨by rfl, ?_⟩) ?_ ?_
       rotate_left; (intro w'; go_simp; with_reducible rfl); rotate_left; (simp only [Act.put, List.setIfInBounds_toArray, List.set_cons_zero, List.set_cons_succ, i64_w, i32_w]; rfl)
       refine pure_ (i := 41) (N := some 114) (v := ?_) (a' := ?_) #[tT,tT,tT,tT,tT,tT,tT,tT,tT,tT,tT,tT,tT,tT,tT,tT,tT,tT,tT,tT,tT,tT,tT,tT,tT,tT,tT,tT,tT,tT,tT,tT,tT,tT,tT,tT,tT,tT,tT,tT,fF,tT,fF,fF,fF,fF] rfl rfl (any_of HT_.out (by kernel_rfl)) (fun _ _ _ h => h) (Or.inl ⟨by rfl, ?_⟩) ?_ ?_
       rotate_left; (intro w'; go_simp; with_reducible rfl); rotate_left; (simp only [Act.put, List.setIfInBounds_toArray, List.set_cons_zero, List.set_cons_succ, i64_w, i32_w]; rfl)
       refine take_ (i := 40) (N := some 113) (v := ?_) (a' := ?_) #[tT,tT,tT,tT,tT,tT,tT,tT,tT,tT,tT,tT,tT,tT,tT,tT,tT,tT,tT,tT,tT,tT,tT,tT,tT,tT,tT,tT,tT,tT,tT,tT,tT,tT,tT,tT,tT,tT,tT,tT,tT,tT,fF,fF,fF,fF] rfl rfl (take_ofW HT_.out HW_.out (by kernel_rfl)) (fun _ _ _ h => h) (Or.inl ⟨by rfl, ?_⟩) hHeld ?_ ?_
       rotate_left; (rintro w' ⟨s0, s1, s2, s3, s4, s5, s6, s7, s8, s9, s10, s11⟩; go_simp; with_reducible rfl); rotate_left; (simp only [Act.put, List.setIfInBounds_toArray, List.set_cons_zero, List.set_cons_succ, i64_w, i32_w]; rfl)
       refine take_ (i := 42) (N := some 115) (v := ?_) (a' := ?_) #[tT,tT,tT,tT,tT,tT,tT,tT,tT,tT,tT,tT,tT,tT,tT,tT,tT,tT,tT,tT,tT,tT,tT,tT,tT,tT,tT,tT,tT,tT,tT,tT,tT,tT,tT,tT,tT,tT,tT,tT,tT,tT,tT,fF,fF,fF] rfl rfl (take_ofW HT_.out HW_.out (by kernel_rfl)) (fun _ _ _ h => h) (Or.inl ⟨by rfl, ?_⟩) hHeld ?_ ?_
       rotate_left; (rintro w' ⟨s0, s1, s2, s3, s4, s5, s6, s7, s8, s9, s10, s11⟩; go_simp; with_reducible rfl); rotate_left; (simp only [Act.put, List.setIfInBounds_toArray, List.set_cons_zero, List.set_cons_succ, i64_w, i32_w]; rfl)
       refine one_ (i := 43) (N := some 116) #[tT,tT,tT,tT,tT,tT,tT,tT,tT,tT,tT,tT,tT,tT,tT,tT,tT,tT,tT,tT,tT,tT,tT,tT,tT,tT,tT,tT,tT,tT,tT,tT,tT,tT,tT,tT,tT,tT,tT,tT,tT,tT,tT,tT,fF,fF] rfl rfl (one_of HT_.out (by kernel_rfl)) (by decide) (fun K hK => ?_)
       refine goes_ Try.func14 (by kernel_rfl) rfl #[.slice Ao58 t385.length co58, .slice Ao72 t399.length co72] (by rfl) rfl rfl (by (try simp only [List.map_toArray, List.map_cons, List.map_nil]); first | done | rfl | (simp only [List.length_drop, List.length_take]; rfl)) ?_
       with_reducible refine (spliceref03_Ints.calls kj29 _ _ t385 _ _ t399 t418 _ ?side1 ?side2 ?side3 ?side4 A90.out).mono ?_
       (case side1 => repeat (first | exact (Kd.R_reads' HO_396000.out).2.2 | (with_reducible refine Kd.C_alloc ?_ _) | (with_reducible refine Kd.C_drewN ?_ _) | (with_reducible refine Kd.C_drew ?_)))
       (case side2 => exact (Kd.R_reads' HO_396000.out).2.1)
       (case side3 => repeat (first | exact (Kd.R_reads' HO_410000.out).2.2 | (with_reducible refine Kd.C_alloc ?_ _) | (with_reducible refine Kd.C_drewN ?_ _) | (with_reducible refine Kd.C_drew ?_)))
       (case side4 => exact (Kd.R_reads' HO_410000.out).2.1)
       rintro e w' ⟨rfl, ⟨nd, rfl⟩⟩
       refine ⟨_, rfl, ?_⟩
       refine hK.out _ _ ⟨(blk_cell BK395.out 0).trans rfl, (blk_cell BK395.out 1).trans rfl, (blk_cell BK395.out 2).trans rfl, (blk_cell BK395.out 3).trans rfl, (blk_cell BK395.out 4).trans rfl, (blk_cell BK409.out 0).trans rfl, (blk_cell BK409.out 1).trans rfl, (blk_cell BK409.out 2).trans rfl, (blk_cell BK409.out 3).trans rfl, (blk_cell BK409.out 4).trans rfl, hHeld.2.2.2.2.2.2.2.2.2.2.1, hHeld.2.2.2.2.2.2.2.2.2.2.2⟩ (fun hHeld => ?_)
       clear hK K
       refine norm_ (a' := ?_) ?_ ?_
       rotate_left; (show Act.put _ (some 116) _ = _; simp only [Act.put, List.setIfInBounds_toArray, List.set_cons_zero, List.set_cons_succ, i64_w, i32_w]; rfl)
       refine pure_ (i := 44) (N := some 117) (v := ?_) (a' := ?_) #[tT,tT,tT,tT,tT,tT,tT,tT,tT,tT,tT,tT,tT,tT,tT,tT,tT,tT,tT,tT,tT,tT,tT,tT,tT,tT,tT,tT,tT,tT,tT,tT,tT,tT,tT,tT,tT,tT,tT,tT,tT,tT,tT,tT,tT,fF] rfl rfl (any_of HT_.out (by kernel_rfl)) (fun _ _ _ h => h) (Or.inl ⟨by rfl, ?_⟩) ?_ ?_
       rotate_left; (intro w'; go_simp; with_reducible rfl); rotate_left; (simp only [Act.put, List.setIfInBounds_toArray, List.set_cons_zero, List.set_cons_succ, i64_w, i32_w]; rfl)
       refine pure_ (i := 45) (N := some 6) (v := ?_) (a' := ?_) #[tT,tT,tT,tT,tT,tT,tT,tT,tT,tT,tT,tT,tT,tT,tT,tT,tT,tT,tT,tT,tT,tT,tT,tT,tT,tT,tT,tT,tT,tT,tT,tT,tT,tT,tT,tT,tT,tT,tT,tT,tT,tT,tT,tT,tT,tT] rfl rfl (any_of HT_.out (by kernel_rfl)) (fun _ _ _ h => h) (Or.inl ⟨by rfl, ?_⟩) ?_ ?_
       rotate_left; (intro w'; go_simp; with_reducible rfl); rotate_left; (simp only [Act.put, List.setIfInBounds_toArray, List.set_cons_zero, List.set_cons_succ, i64_w, i32_w]; rfl)
       refine done_ (done_of HT_.out (by kernel_rfl)) ?_
       try go_wp2
       go_ret
       exact ⟨by first | rfl | (simp [errW_none, errW_some] <;> rfl) | (simp only [← hji22]; first | rfl | (simp [errW_none, errW_some] <;> rfl)) | (simp [*, errW_none, errW_some] <;> rfl), by apply_rules (transparency := .reducible) only [HB.out, below_alloc, pw_below_drewN, below_drew1, below_set, GE361.out, GE365.out, GE395.out, GE409.out]⟩
end Go.Proofs.Ytddggnfbplekhaa.Q
