-- Written by drv.py, a program of this session, over the kit's print, out of the translation. Not trusted: Lean checks it.
import Derived.Test.YtddggnfbplekhaaQD0
namespace Go.Proofs.Ytddggnfbplekhaa.Q
open Go.RowKit Go.Proofs.YtddggnfbplekhaaW.PrintWords Go.Proofs.YtddggnfbplekhaaW.PrintLast Go.Proofs.YtddggnfbplekhaaW.PrintMore
attribute [local go_sem] max2_int min2_int max_two min_two max_three min_three max_four min_four   -- for this text's walks alone
set_option linter.unusedVariables false
set_option linter.unusedSimpArgs false

def spliceref12_Plan.T1 : Bool × List (List Nat × List Nat) := (true, [([], []), ([0], [0]), ([1], [1]), ([2, 2], [2]), ([], []), ([4], [4]), ([5], [5]), ([6, 6], [6]), ([3, 7], [3, 7]), ([], []), ([9, 8, 0, 1, 2, 3, 4, 5, 6, 7, 8, 9], [8, 9])])
def spliceref12_Plan.B1 : List Nat := [0, 1, 3, 7, 0, 16, 48, 112, 255, 0, 1023]
theorem spliceref12_Plan.tab1 : rtab .any (opsOf Try.f11 1) = spliceref12_Plan.T1 := by kernel_rfl
theorem spliceref12_Plan.bits1 : waitsOk spliceref12_Plan.T1.2 spliceref12_Plan.B1 = true := by kernel_rfl
def spliceref12_Plan.T13 : Bool × List (List Nat × List Nat) := (true, [([], []), ([0], [0]), ([], []), ([2], [2]), ([], []), ([3, 4], [3, 4]), ([5], [5]), ([6], [6]), ([7], [7]), ([1, 8], [1, 8]), ([0, 1, 2, 3, 4, 5, 6, 7, 8, 9], []), ([10, 9, 0, 1, 2, 3, 4, 5, 6, 7, 8, 9], [9, 10])])
def spliceref12_Plan.B13 : List Nat := [0, 1, 0, 4, 0, 28, 60, 124, 252, 511, 1023, 2047]
theorem spliceref12_Plan.tab13 : rtab .any (opsOf Try.f11 13) = spliceref12_Plan.T13 := by kernel_rfl
theorem spliceref12_Plan.bits13 : waitsOk spliceref12_Plan.T13.2 spliceref12_Plan.B13 = true := by kernel_rfl
def spliceref12_Plan.T27 : Bool × List (List Nat × List Nat) := (true, [([], []), ([0], [0]), ([], []), ([2], [2]), ([], []), ([3, 4], [3, 4]), ([5], [5]), ([6], [6]), ([1, 7], [1, 7]), ([8], [8])])
def spliceref12_Plan.B27 : List Nat := [0, 1, 0, 4, 0, 28, 60, 124, 255, 511]
theorem spliceref12_Plan.tab27 : rtab .any (opsOf Try.f11 27) = spliceref12_Plan.T27 := by kernel_rfl
theorem spliceref12_Plan.bits27 : waitsOk spliceref12_Plan.T27.2 spliceref12_Plan.B27 = true := by kernel_rfl
def spliceref12_Plan.T30 : Bool × List (List Nat × List Nat) := (true, [([], []), ([0], [0]), ([], []), ([2], [2]), ([], []), ([3, 4], [3, 4]), ([5], [5]), ([6], [6]), ([1, 7], [1, 7]), ([0, 1, 2, 3, 4, 5, 6, 7, 8], []), ([9, 8, 0, 1, 2, 3, 4, 5, 6, 7, 8], [8, 9])])
def spliceref12_Plan.B30 : List Nat := [0, 1, 0, 4, 0, 28, 60, 124, 255, 511, 1023]
theorem spliceref12_Plan.tab30 : rtab .any (opsOf Try.f11 30) = spliceref12_Plan.T30 := by kernel_rfl
theorem spliceref12_Plan.bits30 : waitsOk spliceref12_Plan.T30.2 spliceref12_Plan.B30 = true := by kernel_rfl
set_option maxHeartbeats 8000000 in
set_option maxRecDepth 100000 in
theorem spliceref12_Plan.calls (k : Nat) (A0_0 : Option Addr) (c0_0 : Nat) (l0_0 : List (S42)) (A0_1 : Option Addr) (c0_1 : Nat) (l0_1 : List (S39)) (a0_2 : Int) (A1 : Option Addr) (c1 : Nat) (l1 : List Int) (r1 : List Int) (r2 : List Int) (r3 : Int) (r4 : Int) (r5 : Int) (r6 : Int) (w : World) (hr0_0 : Kd.C k42 w A0_0 l0_0.length l0_0) (hc0_0 : l0_0.length ≤ c0_0) (hr0_1 : Kd.C k39 w A0_1 l0_1.length l0_1) (hc0_1 : l0_1.length ≤ c0_1) (hr1 : Kd.C (Kd.int .i64) w A1 l1.length l1) (hc1 : l1.length ≤ c1) (h : spliceref12_Plan.f k l0_0 l0_1 a0_2 l1 = some (r1, r2, r3, r4, r5, r6)) :
    Calls Try.prog 11 #[.agg #[.slice A0_0 l0_0.length c0_0, .slice A0_1 l0_1.length c0_1, .int .i64 a0_2], .slice A1 l1.length c1] w fun e w' => ∃ v0_ v1_ : Value, e = .returned (.tuple #[.agg #[v0_, v1_, .int .i64 r3, .int .i64 r4, .int .i64 r5], .int .i64 r6]) ∧ Kd.R (Kd.int .i64) 3 w' w.heap.size (fun k_ => some k_ ≠ (v1_ : Value).ownBlock) v0_ r1 ∧ Kd.R (Kd.int .i64) 3 w' w.heap.size (fun k_ => some k_ ≠ (v0_ : Value).ownBlock) v1_ r2 ∧ Below w.heap.size w w' := by
 have hu25 := Try.underlying25
 have hu30 := Try.underlying30
 have HR0_0 := Aside0.mk hr0_0
 have HC0_0 := Aside0.mk hc0_0
 clear hr0_0 hc0_0
 have HR0_1 := Aside0.mk hr0_1
 have HC0_1 := Aside0.mk hc0_1
 clear hr0_1 hc0_1
 have HR1 := Aside0.mk hr1
 have HC1 := Aside0.mk hc1
 clear hr1 hc1
 have HB := Aside0.mk (Below.refl w.heap.size w)
 have H : (if 0 ≤ (l0_0.length : Int) then (if ((l0_0.length : Int) : Int).toNat ≤ 35184372088832 then (if 0 ≤ (l0_1.length : Int) then (if ((l0_1.length : Int) : Int).toNat ≤ 35184372088832 then (spliceref12_Plan.l0 k l1 0 l0_0 l0_1 a0_2 (List.replicate ((l0_0.length : Int) : Int).toNat 0) (List.replicate ((l0_1.length : Int) : Int).toNat 0) 0 0 0) else (none)) else (none)) else (none)) else (none)) = some (r1, r2, r3, r4, r5, r6) := h
 clear h
 by_cases c3 : 0 ≤ (l0_0.length : Int)
 ·
  rw [if_pos c3] at H
  have c3b0 := eq_true c3
  have c3b1 : decide (0 ≤ (l0_0.length : Int)) = true := decide_eq_true c3
  clear c3
  by_cases c4 : ((l0_0.length : Int) : Int).toNat ≤ 35184372088832
  ·
   rw [if_pos c4] at H
   have c4b0 := eq_true c4
   have c4b1 : decide (((l0_0.length : Int) : Int).toNat ≤ 35184372088832) = true := decide_eq_true c4
   clear c4
   obtain ⟨y184, hy184⟩ : ∃ y_ : List Int, y_ = (List.replicate ((l0_0.length : Int) : Int).toNat 0) := ⟨_, rfl⟩
   replace H : (if 0 ≤ (l0_1.length : Int) then (if ((l0_1.length : Int) : Int).toNat ≤ 35184372088832 then (spliceref12_Plan.l0 k l1 0 l0_0 l0_1 a0_2 y184 (List.replicate ((l0_1.length : Int) : Int).toNat 0) 0 0 0) else (none)) else (none)) = some (r1, r2, r3, r4, r5, r6) := by first | (rw [hy184]; with_reducible exact H) | (have H2_ := (Option.bind_some _ _).symm.trans H; rw [hy184]; with_reducible exact H2_) | (have H2_ := (Option.bind_some _ _).symm.trans H; with_reducible exact H2_) | with_reducible exact H | (rw [hy184]; exact H) | exact H
   have Ny184 := Aside0.mk hy184
   clear hy184
   by_cases c5 : 0 ≤ (l0_1.length : Int)
   ·
    rw [if_pos c5] at H
    have c5b0 := eq_true c5
    have c5b1 : decide (0 ≤ (l0_1.length : Int)) = true := decide_eq_true c5
    clear c5
    by_cases c6 : ((l0_1.length : Int) : Int).toNat ≤ 35184372088832
    ·
     rw [if_pos c6] at H
     have c6b0 := eq_true c6
     have c6b1 : decide (((l0_1.length : Int) : Int).toNat ≤ 35184372088832) = true := decide_eq_true c6
     clear c6
     obtain ⟨y187, hy187⟩ : ∃ y_ : List Int, y_ = (List.replicate ((l0_1.length : Int) : Int).toNat 0) := ⟨_, rfl⟩
     replace H : (spliceref12_Plan.l0 k l1 0 l0_0 l0_1 a0_2 y184 y187 0 0 0) = some (r1, r2, r3, r4, r5, r6) := by first | (rw [hy187]; with_reducible exact H) | (have H2_ := (Option.bind_some _ _).symm.trans H; rw [hy187]; with_reducible exact H2_) | (have H2_ := (Option.bind_some _ _).symm.trans H; with_reducible exact H2_) | with_reducible exact H | (rw [hy187]; exact H) | exact H
     have Ny187 := Aside0.mk hy187
     clear hy187
     have H' := Aside0.mk H
     clear H
     go_enter Try.func11, Try.ntmps11
     try go_wp2_with (first | ((with_reducible refine gate_dst (N := 2) rfl ?_); (try (refine gate_guard (by rfl) ?_; dsimp only)); refine box_event ?hg (N := 2) ?hd (cs := #[.slice A0_0 l0_0.length c0_0, .slice A0_1 l0_1.length c0_1, .int .i64 a0_2]) (t := 25) ?hr ?_; (case hd => rfl); (case hg => rfl); (case hr => first | (go_simp; done) | (go_simp; rfl)); intro gb182 hg w7 hbox hb; have n0_ := Aside0.mk (below_step (by repeat (first | (with_reducible first | exact HB.out | apply below_alloc | apply pw_below_drewN | apply below_drew1) | exact HB.out)) hb); have n1_ := Aside0.mk (hbox); have n2_ := Aside0.mk ((by rw [hg]; exact (below_size (by repeat (first | (with_reducible first | exact HB.out | apply below_alloc | apply pw_below_drewN | apply below_drew1) | exact HB.out))) : w.heap.size ≤ gb182)); have n3_ := Aside0.mk ((by rw [hg]; exact (below_size (by repeat (first | (with_reducible first | exact HB.out | apply below_alloc | apply pw_below_drewN | apply below_drew1) | exact HB.out))) : w.heap.size ≤ gb182)); clear HB; have HB := n0_; have BK182 := n1_; have GW182 := n2_; have GE182 := n3_; clear n0_ n1_ n2_ n3_; clear hb hbox hg) | ((with_reducible refine gate_dst (N := 4) rfl ?_); (try (refine gate_guard (by rfl) ?_; dsimp only)); refine box_event ?hg (N := 4) ?hd (cs := #[.slice none 0 0, .slice none 0 0, .int .i64 0, .int .i64 0, .int .i64 0]) (t := 30) ?hr ?_; (case hd => rfl); (case hg => rfl); (case hr => first | (go_simp; done) | (go_simp; rfl)); intro gb183 hg w8 hbox hb; have n0_ := Aside0.mk (blk_below (g := gb182) (o := .cells #[.slice A0_0 l0_0.length c0_0, .slice A0_1 l0_1.length c0_1, .int .i64 a0_2] 25 (0, 0)) (by (with_reducible repeat (first | refine blk_drewN ?_ _ | refine blk_drew ?_ | refine blk_alloc ?_ _)); exact BK182.out) hb); have n1_ := Aside0.mk (below_step (by repeat (first | (with_reducible first | exact HB.out | apply below_alloc | apply pw_below_drewN | apply below_drew1 | refine below_set ?_ GE182.out) | exact HB.out)) hb); have n2_ := Aside0.mk (hbox); have n3_ := Aside0.mk ((by rw [hg]; exact (below_size (by repeat (first | (with_reducible first | exact HB.out | apply below_alloc | apply pw_below_drewN | apply below_drew1 | refine below_set ?_ GE182.out) | exact HB.out))) : w.heap.size ≤ gb183)); have n4_ := Aside0.mk ((by rw [hg]; exact (below_size (by repeat (first | (with_reducible first | exact HB.out | apply below_alloc | apply pw_below_drewN | apply below_drew1 | refine below_set ?_ GE182.out) | exact HB.out))) : w.heap.size ≤ gb183)); have n5_ := Aside0.mk ((by rw [hg]; exact Nat.ne_of_lt (blk_lt (g := gb182) (o := .cells #[.slice A0_0 l0_0.length c0_0, .slice A0_1 l0_1.length c0_1, .int .i64 a0_2] 25 (0, 0)) (by (with_reducible repeat (first | refine blk_drewN ?_ _ | refine blk_drew ?_ | refine blk_alloc ?_ _)); exact BK182.out)) : gb182 ≠ gb183)); have n6_ := Aside0.mk ((by rw [hg]; exact Nat.ne_of_gt (blk_lt (g := gb182) (o := .cells #[.slice A0_0 l0_0.length c0_0, .slice A0_1 l0_1.length c0_1, .int .i64 a0_2] 25 (0, 0)) (by (with_reducible repeat (first | refine blk_drewN ?_ _ | refine blk_drew ?_ | refine blk_alloc ?_ _)); exact BK182.out)) : gb183 ≠ gb182)); clear BK182; clear HB; have BK182 := n0_; have HB := n1_; have BK183 := n2_; have GW183 := n3_; have GE183 := n4_; have NB182_183 := n5_; have NB183_182 := n6_; clear n0_ n1_ n2_ n3_ n4_ n5_ n6_; clear hb hbox hg))
     have n0_ := Aside0.mk (blk_drew BK182.out)
     have n1_ := Aside0.mk (blk_drew BK183.out)
     have n2_ := Aside0.mk (below_drew1 HB.out)
     clear BK182
     clear BK183
     clear HB
     have BK182 := n0_
     have BK183 := n1_
     have HB := n2_
     clear n0_ n1_ n2_
     refine start_ (n := 11) (S := fun w' => w'.cell? ⟨gb182, 0, none⟩ = some (.slice A0_0 l0_0.length c0_0) ∧ w'.cell? ⟨gb182, 1, none⟩ = some (.slice A0_1 l0_1.length c0_1) ∧ w'.cell? ⟨gb182, 2, none⟩ = some (.int .i64 a0_2)) (ds := []) #[false, false, false, false, false, false, false, false, false, false, false] (by kernel_rfl) rfl rfl ⟨(blk_cell BK182.out 0).trans rfl, (blk_cell BK182.out 1).trans rfl, (blk_cell BK182.out 2).trans rfl⟩ (fun hHeld => ?_); refine with_tabW spliceref12_Plan.tab1 spliceref12_Plan.bits1 (fun HT_ HW_ => ?_)
     generalize w8.drew = w9 at BK182 BK183 HB hHeld ⊢
     refine pure_ (i := 0) (N := some 12) (v := ?_) (a' := ?_) #[true, false, false, false, false, false, false, false, false, false, false] rfl rfl (any_of HT_.out (by kernel_rfl)) (fun _ _ _ h => h) (Or.inl ⟨by rfl, ?_⟩) ?_ ?_
     rotate_left
     ·
      intro w'
      go_simp
      with_reducible rfl
     rotate_left
     ·
      simp only [Act.put, List.setIfInBounds_toArray, List.set_cons_zero, List.set_cons_succ, i64_w, i32_w]
      rfl
     refine pure_ (i := 4) (N := some 16) (v := ?_) (a' := ?_) #[true, false, false, false, true, false, false, false, false, false, false] rfl rfl (any_of HT_.out (by kernel_rfl)) (fun _ _ _ h => h) (Or.inl ⟨by rfl, ?_⟩) ?_ ?_
     rotate_left
     ·
      intro w'
      go_simp
      with_reducible rfl
     rotate_left
     ·
      simp only [Act.put, List.setIfInBounds_toArray, List.set_cons_zero, List.set_cons_succ, i64_w, i32_w]
      rfl
     refine take_ (i := 1) (N := some 13) (v := ?_) (a' := ?_) #[true, true, false, false, true, false, false, false, false, false, false] rfl rfl (take_ofW HT_.out HW_.out (by kernel_rfl)) (fun _ _ _ h => h) (Or.inl ⟨by rfl, ?_⟩) hHeld ?_ ?_
     rotate_left
     ·
      rintro w' ⟨s0, s1, s2⟩
      go_simp
      with_reducible rfl
     rotate_left
     ·
      simp only [Act.put, List.setIfInBounds_toArray, List.set_cons_zero, List.set_cons_succ, i64_w, i32_w]
      rfl
     refine pure_ (i := 2) (N := some 14) (v := ?_) (a' := ?_) #[true, true, true, false, true, false, false, false, false, false, false] rfl rfl (any_of HT_.out (by kernel_rfl)) (fun _ _ _ h => h) (Or.inl ⟨by rfl, ?_⟩) ?_ ?_
     rotate_left
     ·
      intro w'
      go_simp
      with_reducible rfl
     rotate_left
     ·
      simp only [Act.put, List.setIfInBounds_toArray, List.set_cons_zero, List.set_cons_succ, i64_w, i32_w]
      rfl
     refine take_ (i := 5) (N := some 17) (v := ?_) (a' := ?_) #[true, true, true, false, true, true, false, false, false, false, false] rfl rfl (take_ofW HT_.out HW_.out (by kernel_rfl)) (fun _ _ _ h => h) (Or.inl ⟨by rfl, ?_⟩) hHeld ?_ ?_
     rotate_left
     ·
      rintro w' ⟨s0, s1, s2⟩
      go_simp
      with_reducible rfl
     rotate_left
     ·
      simp only [Act.put, List.setIfInBounds_toArray, List.set_cons_zero, List.set_cons_succ, i64_w, i32_w]
      rfl
     refine pure_ (i := 6) (N := some 18) (v := ?_) (a' := ?_) #[true, true, true, false, true, true, true, false, false, false, false] rfl rfl (any_of HT_.out (by kernel_rfl)) (fun _ _ _ h => h) (Or.inl ⟨by rfl, ?_⟩) ?_ ?_
     rotate_left
     ·
      intro w'
      go_simp
      with_reducible rfl
     rotate_left
     ·
      simp only [Act.put, List.setIfInBounds_toArray, List.set_cons_zero, List.set_cons_succ, i64_w, i32_w]
      rfl
     refine join_ (σ := Value × Value × Nat) 1 #[true, true, true, true, true, true, true, true, true, true, false] (fun s_ => [(15, s_.1), (19, s_.2.1), (6, .pointer (some ⟨s_.2.2, 0, none⟩)), (20, .agg #[s_.1, s_.2.1, .int .i64 0, .int .i64 0, .int .i64 0])]) (fun s_ w' => (w'.cell? ⟨gb182, 0, none⟩ = some (.slice A0_0 l0_0.length c0_0) ∧ w'.cell? ⟨gb182, 1, none⟩ = some (.slice A0_1 l0_1.length c0_1) ∧ w'.cell? ⟨gb182, 2, none⟩ = some (.int .i64 a0_2)) ∧ (Kd.R (Kd.int .i64) 3 w' w.heap.size (fun k_ => some k_ ≠ (s_.2.1 : Value).ownBlock) s_.1 y184) ∧ (Kd.R (Kd.int .i64) 3 w' w.heap.size (fun k_ => some k_ ≠ (s_.1 : Value).ownBlock) s_.2.1 y187) ∧ (w'.heap[gb182]? = some (.cells #[.slice A0_0 l0_0.length c0_0, .slice A0_1 l0_1.length c0_1, .int .i64 a0_2] 25 (0, 0))) ∧ (w'.heap[gb183]? = some (.cells #[.slice none 0 0, .slice none 0 0, .int .i64 0, .int .i64 0, .int .i64 0] 30 (0, 0))) ∧ (w'.heap[s_.2.2]? = some (.cells #[.slice none 0 0, .slice none 0 0, .int .i64 0, .int .i64 0, .int .i64 0] 30 (0, 0))) ∧ (w.heap.size ≤ s_.2.2) ∧ (w.heap.size ≤ s_.2.2) ∧ (gb182 ≠ s_.2.2) ∧ (s_.2.2 ≠ gb182) ∧ (gb183 ≠ s_.2.2) ∧ (s_.2.2 ≠ gb183) ∧ (Below w.heap.size w w')) ?_ ?_
     rotate_left
     ·
      intro hJ3_7_9
      refine join_ (σ := Value × Value) 2 #[true, true, true, true, true, true, true, true, true, false, false] (fun s_ => [(15, s_.1), (19, s_.2), (20, .agg #[s_.1, s_.2, .int .i64 0, .int .i64 0, .int .i64 0])]) (fun s_ w' => (w'.cell? ⟨gb182, 0, none⟩ = some (.slice A0_0 l0_0.length c0_0) ∧ w'.cell? ⟨gb182, 1, none⟩ = some (.slice A0_1 l0_1.length c0_1) ∧ w'.cell? ⟨gb182, 2, none⟩ = some (.int .i64 a0_2)) ∧ (Kd.R (Kd.int .i64) 3 w' w.heap.size (fun k_ => some k_ ≠ (s_.2 : Value).ownBlock) s_.1 y184) ∧ (Kd.R (Kd.int .i64) 3 w' w.heap.size (fun k_ => some k_ ≠ (s_.1 : Value).ownBlock) s_.2 y187) ∧ (w'.heap[gb182]? = some (.cells #[.slice A0_0 l0_0.length c0_0, .slice A0_1 l0_1.length c0_1, .int .i64 a0_2] 25 (0, 0))) ∧ (w'.heap[gb183]? = some (.cells #[.slice none 0 0, .slice none 0 0, .int .i64 0, .int .i64 0, .int .i64 0] 30 (0, 0))) ∧ (Below w.heap.size w w')) ?_ ?_
      rotate_left
      ·
       intro hJ3_7
       refine join_ (σ := Value × Nat) 3 #[true, true, true, true, true, true, true, false, false, true, false] (fun s_ => [(15, s_.1), (6, .pointer (some ⟨s_.2, 0, none⟩))]) (fun s_ w' => (w'.cell? ⟨gb182, 0, none⟩ = some (.slice A0_0 l0_0.length c0_0) ∧ w'.cell? ⟨gb182, 1, none⟩ = some (.slice A0_1 l0_1.length c0_1) ∧ w'.cell? ⟨gb182, 2, none⟩ = some (.int .i64 a0_2)) ∧ (Kd.R (Kd.int .i64) 3 w' w.heap.size (fun _ => True) s_.1 y184) ∧ (w'.heap[gb182]? = some (.cells #[.slice A0_0 l0_0.length c0_0, .slice A0_1 l0_1.length c0_1, .int .i64 a0_2] 25 (0, 0))) ∧ (w'.heap[gb183]? = some (.cells #[.slice none 0 0, .slice none 0 0, .int .i64 0, .int .i64 0, .int .i64 0] 30 (0, 0))) ∧ (w'.heap[s_.2]? = some (.cells #[.slice none 0 0, .slice none 0 0, .int .i64 0, .int .i64 0, .int .i64 0] 30 (0, 0))) ∧ (w.heap.size ≤ s_.2) ∧ (w.heap.size ≤ s_.2) ∧ (gb182 ≠ s_.2) ∧ (s_.2 ≠ gb182) ∧ (gb183 ≠ s_.2) ∧ (s_.2 ≠ gb183) ∧ (Below w.heap.size w w')) ?_ ?_
       rotate_left
       ·
        intro hJ3_9
        refine join_ (σ := Value × Nat) 3 #[true, true, true, false, true, true, true, true, false, true, false] (fun s_ => [(19, s_.1), (6, .pointer (some ⟨s_.2, 0, none⟩))]) (fun s_ w' => (w'.cell? ⟨gb182, 0, none⟩ = some (.slice A0_0 l0_0.length c0_0) ∧ w'.cell? ⟨gb182, 1, none⟩ = some (.slice A0_1 l0_1.length c0_1) ∧ w'.cell? ⟨gb182, 2, none⟩ = some (.int .i64 a0_2)) ∧ (Kd.R (Kd.int .i64) 3 w' w.heap.size (fun _ => True) s_.1 y187) ∧ (w'.heap[gb182]? = some (.cells #[.slice A0_0 l0_0.length c0_0, .slice A0_1 l0_1.length c0_1, .int .i64 a0_2] 25 (0, 0))) ∧ (w'.heap[gb183]? = some (.cells #[.slice none 0 0, .slice none 0 0, .int .i64 0, .int .i64 0, .int .i64 0] 30 (0, 0))) ∧ (w'.heap[s_.2]? = some (.cells #[.slice none 0 0, .slice none 0 0, .int .i64 0, .int .i64 0, .int .i64 0] 30 (0, 0))) ∧ (w.heap.size ≤ s_.2) ∧ (w.heap.size ≤ s_.2) ∧ (gb182 ≠ s_.2) ∧ (s_.2 ≠ gb182) ∧ (gb183 ≠ s_.2) ∧ (s_.2 ≠ gb183) ∧ (Below w.heap.size w w')) ?_ ?_
        rotate_left
        ·
         intro hJ7_9
         refine join_ (σ := Value) 4 #[true, true, true, true, true, true, true, false, false, false, false] (fun s_ => [(15, s_)]) (fun s_ w' => (w'.cell? ⟨gb182, 0, none⟩ = some (.slice A0_0 l0_0.length c0_0) ∧ w'.cell? ⟨gb182, 1, none⟩ = some (.slice A0_1 l0_1.length c0_1) ∧ w'.cell? ⟨gb182, 2, none⟩ = some (.int .i64 a0_2)) ∧ (Kd.R (Kd.int .i64) 3 w' w.heap.size (fun _ => True) s_ y184) ∧ (w'.heap[gb182]? = some (.cells #[.slice A0_0 l0_0.length c0_0, .slice A0_1 l0_1.length c0_1, .int .i64 a0_2] 25 (0, 0))) ∧ (w'.heap[gb183]? = some (.cells #[.slice none 0 0, .slice none 0 0, .int .i64 0, .int .i64 0, .int .i64 0] 30 (0, 0))) ∧ (Below w.heap.size w w')) ?_ ?_
         rotate_left
         ·
          intro hJ3
          refine join_ (σ := Value) 4 #[true, true, true, false, true, true, true, true, false, false, false] (fun s_ => [(19, s_)]) (fun s_ w' => (w'.cell? ⟨gb182, 0, none⟩ = some (.slice A0_0 l0_0.length c0_0) ∧ w'.cell? ⟨gb182, 1, none⟩ = some (.slice A0_1 l0_1.length c0_1) ∧ w'.cell? ⟨gb182, 2, none⟩ = some (.int .i64 a0_2)) ∧ (Kd.R (Kd.int .i64) 3 w' w.heap.size (fun _ => True) s_ y187) ∧ (w'.heap[gb182]? = some (.cells #[.slice A0_0 l0_0.length c0_0, .slice A0_1 l0_1.length c0_1, .int .i64 a0_2] 25 (0, 0))) ∧ (w'.heap[gb183]? = some (.cells #[.slice none 0 0, .slice none 0 0, .int .i64 0, .int .i64 0, .int .i64 0] 30 (0, 0))) ∧ (Below w.heap.size w w')) ?_ ?_
          rotate_left
          ·
           intro hJ7
           refine join_ (σ := Nat) 4 #[true, true, true, false, true, true, true, false, false, true, false] (fun s_ => [(6, .pointer (some ⟨s_, 0, none⟩))]) (fun s_ w' => (w'.cell? ⟨gb182, 0, none⟩ = some (.slice A0_0 l0_0.length c0_0) ∧ w'.cell? ⟨gb182, 1, none⟩ = some (.slice A0_1 l0_1.length c0_1) ∧ w'.cell? ⟨gb182, 2, none⟩ = some (.int .i64 a0_2)) ∧ (w'.heap[gb182]? = some (.cells #[.slice A0_0 l0_0.length c0_0, .slice A0_1 l0_1.length c0_1, .int .i64 a0_2] 25 (0, 0))) ∧ (w'.heap[gb183]? = some (.cells #[.slice none 0 0, .slice none 0 0, .int .i64 0, .int .i64 0, .int .i64 0] 30 (0, 0))) ∧ (w'.heap[s_]? = some (.cells #[.slice none 0 0, .slice none 0 0, .int .i64 0, .int .i64 0, .int .i64 0] 30 (0, 0))) ∧ (w.heap.size ≤ s_) ∧ (w.heap.size ≤ s_) ∧ (gb182 ≠ s_) ∧ (s_ ≠ gb182) ∧ (gb183 ≠ s_) ∧ (s_ ≠ gb183) ∧ (Below w.heap.size w w')) ?_ ?_
           rotate_left
           ·
            intro hJ9
            refine three_ (i := 3) (j := 7) (k := 9) (Ni := some 15) (Nj := some 19) (Nk := some 6) #[true, true, true, true, true, true, true, false, false, false, false] #[true, true, true, false, true, true, true, true, false, false, false] #[true, true, true, false, true, true, true, false, false, true, false] rfl rfl rfl rfl rfl rfl (three_of HT_.out (by kernel_rfl)) (by decide) (by decide) (by decide) (fun K hK => ?_) (fun K hK => ?_) (fun K hK => ?_)
            ·
             skip
             refine Kd.R_make_step (Kd.int .i64) _ 3 (by rfl) (N := 15) rfl 26 _ _ rfl (l0_0.length : Int) rfl rfl Try.underlying26 (.int .i64 0) 8 info3 rfl (by decide) (by omega) 0 (ok := fun _ => True) (okp := fun _ => True) rfl (fun _ hk => hk) trivial (of_decide_eq_true (by first | (with_reducible assumption) | assumption)) (Nat.le_trans (Nat.mul_le_mul_right _ (of_decide_eq_true (by first | (with_reducible assumption) | assumption) : (l0_0.length : Int).toNat ≤ 35184372088832)) (by omega)) (Below.refl _ _) (Nat.le_refl _) ?_
             intro v185 w10 ho11 hb hg_ hnew_
             clear hg_ hnew_
             (first | rw [← Ny184.out] at ho11 | (simp only [Int.reduceToNat] at ho11; rw [← Ny184.out] at ho11))
             have n0_ := Aside0.mk (Kd.R_lower ho11 (below_size (by repeat (first | (with_reducible first | exact HB.out | apply below_alloc | apply pw_below_drewN | apply below_drew1 | refine below_set ?_ GE182.out | refine below_set ?_ GE183.out) | exact HB.out))))
             have n1_ := Aside0.mk (blk_below (g := gb182) (o := .cells #[.slice A0_0 l0_0.length c0_0, .slice A0_1 l0_1.length c0_1, .int .i64 a0_2] 25 (0, 0)) (by (with_reducible repeat (first | refine blk_drewN ?_ _ | refine blk_drew ?_ | refine blk_alloc ?_ _)); exact BK182.out) hb)
             have n2_ := Aside0.mk (blk_below (g := gb183) (o := .cells #[.slice none 0 0, .slice none 0 0, .int .i64 0, .int .i64 0, .int .i64 0] 30 (0, 0)) (by (with_reducible repeat (first | refine blk_drewN ?_ _ | refine blk_drew ?_ | refine blk_alloc ?_ _)); exact BK183.out) hb)
             have n3_ := Aside0.mk (below_step (by repeat (first | (with_reducible first | exact HB.out | apply below_alloc | apply pw_below_drewN | apply below_drew1 | refine below_set ?_ GE182.out | refine below_set ?_ GE183.out) | exact HB.out)) hb)
             clear BK182
             clear BK183
             clear HB
             have HO186 := n0_
             have BK182 := n1_
             have BK183 := n2_
             have HB := n3_
             clear n0_ n1_ n2_ n3_
             clear hb ho11
             refine hK.out _ _ ⟨(blk_cell BK182.out 0).trans rfl, (blk_cell BK182.out 1).trans rfl, (blk_cell BK182.out 2).trans rfl⟩ (fun hHeld => ?_)
             clear hK K
             refine norm_ (a' := ?_) ?_ ?_
             rotate_left
             ·
              show Act.put _ (some 15) _ = _
              simp only [Act.put, List.setIfInBounds_toArray, List.set_cons_zero, List.set_cons_succ, i64_w, i32_w]
              rfl
             exact norm_ (by first | (simp only [putAll, Act.put, List.setIfInBounds_toArray, List.set_cons_zero, List.set_cons_succ]; done) | (simp only [putAll, Act.put, List.setIfInBounds_toArray, List.set_cons_zero, List.set_cons_succ]; rfl)) (hJ3 (v185) _ ⟨hHeld, (by (with_reducible repeat (first | apply Kd.R_alloc | apply Kd.R_drewN | apply Kd.R_drew)); exact HO186.out), (by (with_reducible repeat (first | refine blk_drewN ?_ _ | refine blk_drew ?_ | refine blk_alloc ?_ _)); exact BK182.out), (by (with_reducible repeat (first | refine blk_drewN ?_ _ | refine blk_drew ?_ | refine blk_alloc ?_ _)); exact BK183.out), (by repeat (first | (with_reducible first | exact HB.out | apply below_alloc | apply pw_below_drewN | apply below_drew1 | refine below_set ?_ GE182.out | refine below_set ?_ GE183.out) | exact HB.out))⟩)
            ·
             skip
             refine Kd.R_make_step (Kd.int .i64) _ 3 (by rfl) (N := 19) rfl 26 _ _ rfl (l0_1.length : Int) rfl rfl Try.underlying26 (.int .i64 0) 8 info3 rfl (by decide) (by omega) 0 (ok := fun _ => True) (okp := fun _ => True) rfl (fun _ hk => hk) trivial (of_decide_eq_true (by first | (with_reducible assumption) | assumption)) (Nat.le_trans (Nat.mul_le_mul_right _ (of_decide_eq_true (by first | (with_reducible assumption) | assumption) : (l0_1.length : Int).toNat ≤ 35184372088832)) (by omega)) (Below.refl _ _) (Nat.le_refl _) ?_
             intro v188 w10 ho11 hb hg_ hnew_
             clear hg_ hnew_
             (first | rw [← Ny187.out] at ho11 | (simp only [Int.reduceToNat] at ho11; rw [← Ny187.out] at ho11))
             have n0_ := Aside0.mk (Kd.R_lower ho11 (below_size (by repeat (first | (with_reducible first | exact HB.out | apply below_alloc | apply pw_below_drewN | apply below_drew1 | refine below_set ?_ GE182.out | refine below_set ?_ GE183.out) | exact HB.out))))
             have n1_ := Aside0.mk (blk_below (g := gb182) (o := .cells #[.slice A0_0 l0_0.length c0_0, .slice A0_1 l0_1.length c0_1, .int .i64 a0_2] 25 (0, 0)) (by (with_reducible repeat (first | refine blk_drewN ?_ _ | refine blk_drew ?_ | refine blk_alloc ?_ _)); exact BK182.out) hb)
             have n2_ := Aside0.mk (blk_below (g := gb183) (o := .cells #[.slice none 0 0, .slice none 0 0, .int .i64 0, .int .i64 0, .int .i64 0] 30 (0, 0)) (by (with_reducible repeat (first | refine blk_drewN ?_ _ | refine blk_drew ?_ | refine blk_alloc ?_ _)); exact BK183.out) hb)
             have n3_ := Aside0.mk (below_step (by repeat (first | (with_reducible first | exact HB.out | apply below_alloc | apply pw_below_drewN | apply below_drew1 | refine below_set ?_ GE182.out | refine below_set ?_ GE183.out) | exact HB.out)) hb)
             clear BK182
             clear BK183
             clear HB
             have HO189 := n0_
             have BK182 := n1_
             have BK183 := n2_
             have HB := n3_
             clear n0_ n1_ n2_ n3_
             clear hb ho11
             refine hK.out _ _ ⟨(blk_cell BK182.out 0).trans rfl, (blk_cell BK182.out 1).trans rfl, (blk_cell BK182.out 2).trans rfl⟩ (fun hHeld => ?_)
             clear hK K
             refine norm_ (a' := ?_) ?_ ?_
             rotate_left
             ·
              show Act.put _ (some 19) _ = _
              simp only [Act.put, List.setIfInBounds_toArray, List.set_cons_zero, List.set_cons_succ, i64_w, i32_w]
              rfl
             exact norm_ (by first | (simp only [putAll, Act.put, List.setIfInBounds_toArray, List.set_cons_zero, List.set_cons_succ]; done) | (simp only [putAll, Act.put, List.setIfInBounds_toArray, List.set_cons_zero, List.set_cons_succ]; rfl)) (hJ7 (v188) _ ⟨hHeld, (by (with_reducible repeat (first | apply Kd.R_alloc | apply Kd.R_drewN | apply Kd.R_drew)); exact HO189.out), (by (with_reducible repeat (first | refine blk_drewN ?_ _ | refine blk_drew ?_ | refine blk_alloc ?_ _)); exact BK182.out), (by (with_reducible repeat (first | refine blk_drewN ?_ _ | refine blk_drew ?_ | refine blk_alloc ?_ _)); exact BK183.out), (by repeat (first | (with_reducible first | exact HB.out | apply below_alloc | apply pw_below_drewN | apply below_drew1 | refine below_set ?_ GE182.out | refine below_set ?_ GE183.out) | exact HB.out))⟩)
            ·
             skip
             refine box_step ?hg (N := 6) ?hd (cs := #[.slice none 0 0, .slice none 0 0, .int .i64 0, .int .i64 0, .int .i64 0]) (t := 30) ?hr ?_; (case hd => rfl); (case hg => rfl); (case hr => first | (go_simp; done) | (go_simp; rfl))
             intro gb190 hg w10 hbox hb
             have n0_ := Aside0.mk (blk_below (g := gb182) (o := .cells #[.slice A0_0 l0_0.length c0_0, .slice A0_1 l0_1.length c0_1, .int .i64 a0_2] 25 (0, 0)) (by (with_reducible repeat (first | refine blk_drewN ?_ _ | refine blk_drew ?_ | refine blk_alloc ?_ _)); exact BK182.out) hb)
             have n1_ := Aside0.mk (blk_below (g := gb183) (o := .cells #[.slice none 0 0, .slice none 0 0, .int .i64 0, .int .i64 0, .int .i64 0] 30 (0, 0)) (by (with_reducible repeat (first | refine blk_drewN ?_ _ | refine blk_drew ?_ | refine blk_alloc ?_ _)); exact BK183.out) hb)
             have n2_ := Aside0.mk (below_step (by repeat (first | (with_reducible first | exact HB.out | apply below_alloc | apply pw_below_drewN | apply below_drew1 | refine below_set ?_ GE182.out | refine below_set ?_ GE183.out) | exact HB.out)) hb)
             have n3_ := Aside0.mk (hbox)
             have n4_ := Aside0.mk ((by rw [hg]; exact (below_size (by repeat (first | (with_reducible first | exact HB.out | apply below_alloc | apply pw_below_drewN | apply below_drew1 | refine below_set ?_ GE182.out | refine below_set ?_ GE183.out) | exact HB.out))) : w.heap.size ≤ gb190))
             have n5_ := Aside0.mk ((by rw [hg]; exact (below_size (by repeat (first | (with_reducible first | exact HB.out | apply below_alloc | apply pw_below_drewN | apply below_drew1 | refine below_set ?_ GE182.out | refine below_set ?_ GE183.out) | exact HB.out))) : w.heap.size ≤ gb190))
             have n6_ := Aside0.mk ((by rw [hg]; exact Nat.ne_of_lt (blk_lt (g := gb182) (o := .cells #[.slice A0_0 l0_0.length c0_0, .slice A0_1 l0_1.length c0_1, .int .i64 a0_2] 25 (0, 0)) (by (with_reducible repeat (first | refine blk_drewN ?_ _ | refine blk_drew ?_ | refine blk_alloc ?_ _)); exact BK182.out)) : gb182 ≠ gb190))
             have n7_ := Aside0.mk ((by rw [hg]; exact Nat.ne_of_gt (blk_lt (g := gb182) (o := .cells #[.slice A0_0 l0_0.length c0_0, .slice A0_1 l0_1.length c0_1, .int .i64 a0_2] 25 (0, 0)) (by (with_reducible repeat (first | refine blk_drewN ?_ _ | refine blk_drew ?_ | refine blk_alloc ?_ _)); exact BK182.out)) : gb190 ≠ gb182))
             have n8_ := Aside0.mk ((by rw [hg]; exact Nat.ne_of_lt (blk_lt (g := gb183) (o := .cells #[.slice none 0 0, .slice none 0 0, .int .i64 0, .int .i64 0, .int .i64 0] 30 (0, 0)) (by (with_reducible repeat (first | refine blk_drewN ?_ _ | refine blk_drew ?_ | refine blk_alloc ?_ _)); exact BK183.out)) : gb183 ≠ gb190))
             have n9_ := Aside0.mk ((by rw [hg]; exact Nat.ne_of_gt (blk_lt (g := gb183) (o := .cells #[.slice none 0 0, .slice none 0 0, .int .i64 0, .int .i64 0, .int .i64 0] 30 (0, 0)) (by (with_reducible repeat (first | refine blk_drewN ?_ _ | refine blk_drew ?_ | refine blk_alloc ?_ _)); exact BK183.out)) : gb190 ≠ gb183))
             clear BK182
             clear BK183
             clear HB
             have BK182 := n0_
             have BK183 := n1_
             have HB := n2_
             have BK190 := n3_
             have GW190 := n4_
             have GE190 := n5_
             have NB182_190 := n6_
             have NB190_182 := n7_
             have NB183_190 := n8_
             have NB190_183 := n9_
             clear n0_ n1_ n2_ n3_ n4_ n5_ n6_ n7_ n8_ n9_
             clear hb hbox hg
             refine hK.out _ _ ⟨(blk_cell BK182.out 0).trans rfl, (blk_cell BK182.out 1).trans rfl, (blk_cell BK182.out 2).trans rfl⟩ (fun hHeld => ?_)
             clear hK K
             refine norm_ (a' := ?_) ?_ ?_
             rotate_left
             ·
              show Act.put _ (some 6) _ = _
              simp only [Act.put, List.setIfInBounds_toArray, List.set_cons_zero, List.set_cons_succ, i64_w, i32_w]
              rfl
             exact norm_ (by first | (simp only [putAll, Act.put, List.setIfInBounds_toArray, List.set_cons_zero, List.set_cons_succ]; done) | (simp only [putAll, Act.put, List.setIfInBounds_toArray, List.set_cons_zero, List.set_cons_succ]; rfl)) (hJ9 (gb190) _ ⟨hHeld, (by (with_reducible repeat (first | refine blk_drewN ?_ _ | refine blk_drew ?_ | refine blk_alloc ?_ _)); exact BK182.out), (by (with_reducible repeat (first | refine blk_drewN ?_ _ | refine blk_drew ?_ | refine blk_alloc ?_ _)); exact BK183.out), (by (with_reducible repeat (first | refine blk_drewN ?_ _ | refine blk_drew ?_ | refine blk_alloc ?_ _)); exact BK190.out), GW190.out, GE190.out, NB182_190.out, NB190_182.out, NB183_190.out, NB190_183.out, (by repeat (first | (with_reducible first | exact HB.out | apply below_alloc | apply pw_below_drewN | apply below_drew1 | refine below_set ?_ GE182.out | refine below_set ?_ GE183.out | refine below_set ?_ GE190.out) | exact HB.out))⟩)
           ·
            skip
            rintro gb190 w11 ⟨hS_, h0_, h1_, h2_, h3_, h4_, h5_, h6_, h7_, h8_, h9_⟩
            have n0_ : Aside0 (w11.heap[gb182]? = some (.cells #[.slice A0_0 l0_0.length c0_0, .slice A0_1 l0_1.length c0_1, .int .i64 a0_2] 25 (0, 0))) := ⟨h0_⟩
            have n1_ : Aside0 (w11.heap[gb183]? = some (.cells #[.slice none 0 0, .slice none 0 0, .int .i64 0, .int .i64 0, .int .i64 0] 30 (0, 0))) := ⟨h1_⟩
            have n2_ : Aside0 (w11.heap[gb190]? = some (.cells #[.slice none 0 0, .slice none 0 0, .int .i64 0, .int .i64 0, .int .i64 0] 30 (0, 0))) := ⟨h2_⟩
            have n3_ : Aside0 (w.heap.size ≤ gb190) := ⟨h3_⟩
            have n4_ : Aside0 (w.heap.size ≤ gb190) := ⟨h4_⟩
            have n5_ : Aside0 (gb182 ≠ gb190) := ⟨h5_⟩
            have n6_ : Aside0 (gb190 ≠ gb182) := ⟨h6_⟩
            have n7_ : Aside0 (gb183 ≠ gb190) := ⟨h7_⟩
            have n8_ : Aside0 (gb190 ≠ gb183) := ⟨h8_⟩
            have n9_ : Aside0 (Below w.heap.size w w11) := ⟨h9_⟩
            clear BK182
            clear BK183
            clear HB
            clear h0_ h1_ h2_ h3_ h4_ h5_ h6_ h7_ h8_ h9_
            have BK182 := n0_
            have BK183 := n1_
            have BK190 := n2_
            have GW190 := n3_
            have GE190 := n4_
            have NB182_190 := n5_
            have NB190_182 := n6_
            have NB183_190 := n7_
            have NB190_183 := n8_
            have HB := n9_
            clear n0_ n1_ n2_ n3_ n4_ n5_ n6_ n7_ n8_ n9_
            have hHeld : w11.cell? ⟨gb182, 0, none⟩ = some (.slice A0_0 l0_0.length c0_0) ∧ w11.cell? ⟨gb182, 1, none⟩ = some (.slice A0_1 l0_1.length c0_1) ∧ w11.cell? ⟨gb182, 2, none⟩ = some (.int .i64 a0_2) := hS_
            refine norm_ (a' := ?_) ?_ ?_
            rotate_left
            ·
             simp only [putAll, Act.put, List.setIfInBounds_toArray, List.set_cons_zero, List.set_cons_succ]
             rfl
            refine two_ (i := 3) (j := 7) (Ni := some 15) (Nj := some 19) #[true, true, true, true, true, true, true, false, false, true, false] #[true, true, true, false, true, true, true, true, false, true, false] rfl rfl rfl rfl (two_of HT_.out (by kernel_rfl)) (by decide) (by decide) (fun K hK => ?_) (fun K hK => ?_)
            ·
             skip
             refine Kd.R_make_step (Kd.int .i64) _ 3 (by rfl) (N := 15) rfl 26 _ _ rfl (l0_0.length : Int) rfl rfl Try.underlying26 (.int .i64 0) 8 info3 rfl (by decide) (by omega) 0 (ok := fun _ => True) (okp := fun _ => True) rfl (fun _ hk => hk) trivial (of_decide_eq_true (by first | (with_reducible assumption) | assumption)) (Nat.le_trans (Nat.mul_le_mul_right _ (of_decide_eq_true (by first | (with_reducible assumption) | assumption) : (l0_0.length : Int).toNat ≤ 35184372088832)) (by omega)) (Below.refl _ _) (Nat.le_refl _) ?_
             intro v185 w12 ho13 hb hg_ hnew_
             clear hg_ hnew_
             (first | rw [← Ny184.out] at ho13 | (simp only [Int.reduceToNat] at ho13; rw [← Ny184.out] at ho13))
             have n0_ := Aside0.mk (Kd.R_lower ho13 (below_size (by repeat (first | (with_reducible first | exact HB.out | apply below_alloc | apply pw_below_drewN | apply below_drew1 | refine below_set ?_ GE182.out | refine below_set ?_ GE183.out | refine below_set ?_ GE190.out) | exact HB.out))))
             have n1_ := Aside0.mk (blk_below (g := gb182) (o := .cells #[.slice A0_0 l0_0.length c0_0, .slice A0_1 l0_1.length c0_1, .int .i64 a0_2] 25 (0, 0)) (by (with_reducible repeat (first | refine blk_drewN ?_ _ | refine blk_drew ?_ | refine blk_alloc ?_ _)); exact BK182.out) hb)
             have n2_ := Aside0.mk (blk_below (g := gb183) (o := .cells #[.slice none 0 0, .slice none 0 0, .int .i64 0, .int .i64 0, .int .i64 0] 30 (0, 0)) (by (with_reducible repeat (first | refine blk_drewN ?_ _ | refine blk_drew ?_ | refine blk_alloc ?_ _)); exact BK183.out) hb)
             have n3_ := Aside0.mk (blk_below (g := gb190) (o := .cells #[.slice none 0 0, .slice none 0 0, .int .i64 0, .int .i64 0, .int .i64 0] 30 (0, 0)) (by (with_reducible repeat (first | refine blk_drewN ?_ _ | refine blk_drew ?_ | refine blk_alloc ?_ _)); exact BK190.out) hb)
             have n4_ := Aside0.mk (below_step (by repeat (first | (with_reducible first | exact HB.out | apply below_alloc | apply pw_below_drewN | apply below_drew1 | refine below_set ?_ GE182.out | refine below_set ?_ GE183.out | refine below_set ?_ GE190.out) | exact HB.out)) hb)
             clear BK182
             clear BK183
             clear BK190
             clear HB
             have HO186 := n0_
             have BK182 := n1_
             have BK183 := n2_
             have BK190 := n3_
             have HB := n4_
             clear n0_ n1_ n2_ n3_ n4_
             clear hb ho13
             refine hK.out _ _ ⟨(blk_cell BK182.out 0).trans rfl, (blk_cell BK182.out 1).trans rfl, (blk_cell BK182.out 2).trans rfl⟩ (fun hHeld => ?_)
             clear hK K
             refine norm_ (a' := ?_) ?_ ?_
             rotate_left
             ·
              show Act.put _ (some 15) _ = _
              simp only [Act.put, List.setIfInBounds_toArray, List.set_cons_zero, List.set_cons_succ, i64_w, i32_w]
              rfl
             exact norm_ (by first | (simp only [putAll, Act.put, List.setIfInBounds_toArray, List.set_cons_zero, List.set_cons_succ]; done) | (simp only [putAll, Act.put, List.setIfInBounds_toArray, List.set_cons_zero, List.set_cons_succ]; rfl)) (hJ3_9 (v185, gb190) _ ⟨hHeld, (by (with_reducible repeat (first | apply Kd.R_alloc | apply Kd.R_drewN | apply Kd.R_drew)); exact HO186.out), (by (with_reducible repeat (first | refine blk_drewN ?_ _ | refine blk_drew ?_ | refine blk_alloc ?_ _)); exact BK182.out), (by (with_reducible repeat (first | refine blk_drewN ?_ _ | refine blk_drew ?_ | refine blk_alloc ?_ _)); exact BK183.out), (by (with_reducible repeat (first | refine blk_drewN ?_ _ | refine blk_drew ?_ | refine blk_alloc ?_ _)); exact BK190.out), GW190.out, GE190.out, NB182_190.out, NB190_182.out, NB183_190.out, NB190_183.out, (by repeat (first | (with_reducible first | exact HB.out | apply below_alloc | apply pw_below_drewN | apply below_drew1 | refine below_set ?_ GE182.out | refine below_set ?_ GE183.out | refine below_set ?_ GE190.out) | exact HB.out))⟩)
            ·
             skip
             refine Kd.R_make_step (Kd.int .i64) _ 3 (by rfl) (N := 19) rfl 26 _ _ rfl (l0_1.length : Int) rfl rfl Try.underlying26 (.int .i64 0) 8 info3 rfl (by decide) (by omega) 0 (ok := fun _ => True) (okp := fun _ => True) rfl (fun _ hk => hk) trivial (of_decide_eq_true (by first | (with_reducible assumption) | assumption)) (Nat.le_trans (Nat.mul_le_mul_right _ (of_decide_eq_true (by first | (with_reducible assumption) | assumption) : (l0_1.length : Int).toNat ≤ 35184372088832)) (by omega)) (Below.refl _ _) (Nat.le_refl _) ?_
             intro v188 w12 ho13 hb hg_ hnew_
             clear hg_ hnew_
             (first | rw [← Ny187.out] at ho13 | (simp only [Int.reduceToNat] at ho13; rw [← Ny187.out] at ho13))
             have n0_ := Aside0.mk (Kd.R_lower ho13 (below_size (by repeat (first | (with_reducible first | exact HB.out | apply below_alloc | apply pw_below_drewN | apply below_drew1 | refine below_set ?_ GE182.out | refine below_set ?_ GE183.out | refine below_set ?_ GE190.out) | exact HB.out))))
             have n1_ := Aside0.mk (blk_below (g := gb182) (o := .cells #[.slice A0_0 l0_0.length c0_0, .slice A0_1 l0_1.length c0_1, .int .i64 a0_2] 25 (0, 0)) (by (with_reducible repeat (first | refine blk_drewN ?_ _ | refine blk_drew ?_ | refine blk_alloc ?_ _)); exact BK182.out) hb)
             have n2_ := Aside0.mk (blk_below (g := gb183) (o := .cells #[.slice none 0 0, .slice none 0 0, .int .i64 0, .int .i64 0, .int .i64 0] 30 (0, 0)) (by (with_reducible repeat (first | refine blk_drewN ?_ _ | refine blk_drew ?_ | refine blk_alloc ?_ _)); exact BK183.out) hb)
             have n3_ := Aside0.mk (blk_below (g := gb190) (o := .cells #[.slice none 0 0, .slice none 0 0, .int .i64 0, .int .i64 0, .int .i64 0] 30 (0, 0)) (by (with_reducible repeat (first | refine blk_drewN ?_ _ | refine blk_drew ?_ | refine blk_alloc ?_ _)); exact BK190.out) hb)
             have n4_ := Aside0.mk (below_step (by repeat (first | (with_reducible first | exact HB.out | apply below_alloc | apply pw_below_drewN | apply below_drew1 | refine below_set ?_ GE182.out | refine below_set ?_ GE183.out | refine below_set ?_ GE190.out) | exact HB.out)) hb)
             clear BK182
             clear BK183
             clear BK190
             clear HB
             have HO189 := n0_
             have BK182 := n1_
             have BK183 := n2_
             have BK190 := n3_
             have HB := n4_
             clear n0_ n1_ n2_ n3_ n4_
             clear hb ho13
             refine hK.out _ _ ⟨(blk_cell BK182.out 0).trans rfl, (blk_cell BK182.out 1).trans rfl, (blk_cell BK182.out 2).trans rfl⟩ (fun hHeld => ?_)
             clear hK K
             refine norm_ (a' := ?_) ?_ ?_
             rotate_left
             ·
              show Act.put _ (some 19) _ = _
              simp only [Act.put, List.setIfInBounds_toArray, List.set_cons_zero, List.set_cons_succ, i64_w, i32_w]
              rfl
             exact norm_ (by first | (simp only [putAll, Act.put, List.setIfInBounds_toArray, List.set_cons_zero, List.set_cons_succ]; done) | (simp only [putAll, Act.put, List.setIfInBounds_toArray, List.set_cons_zero, List.set_cons_succ]; rfl)) (hJ7_9 (v188, gb190) _ ⟨hHeld, (by (with_reducible repeat (first | apply Kd.R_alloc | apply Kd.R_drewN | apply Kd.R_drew)); exact HO189.out), (by (with_reducible repeat (first | refine blk_drewN ?_ _ | refine blk_drew ?_ | refine blk_alloc ?_ _)); exact BK182.out), (by (with_reducible repeat (first | refine blk_drewN ?_ _ | refine blk_drew ?_ | refine blk_alloc ?_ _)); exact BK183.out), (by (with_reducible repeat (first | refine blk_drewN ?_ _ | refine blk_drew ?_ | refine blk_alloc ?_ _)); exact BK190.out), GW190.out, GE190.out, NB182_190.out, NB190_182.out, NB183_190.out, NB190_183.out, (by repeat (first | (with_reducible first | exact HB.out | apply below_alloc | apply pw_below_drewN | apply below_drew1 | refine below_set ?_ GE182.out | refine below_set ?_ GE183.out | refine below_set ?_ GE190.out) | exact HB.out))⟩)
          ·
           skip
           rintro v188 w12 ⟨hS_, h0_, h1_, h2_, h3_⟩
           have n0_ : Aside0 (Kd.R (Kd.int .i64) 3 w12 w.heap.size (fun _ => True) v188 y187) := ⟨h0_⟩
           have n1_ : Aside0 (w12.heap[gb182]? = some (.cells #[.slice A0_0 l0_0.length c0_0, .slice A0_1 l0_1.length c0_1, .int .i64 a0_2] 25 (0, 0))) := ⟨h1_⟩
           have n2_ : Aside0 (w12.heap[gb183]? = some (.cells #[.slice none 0 0, .slice none 0 0, .int .i64 0, .int .i64 0, .int .i64 0] 30 (0, 0))) := ⟨h2_⟩
           have n3_ : Aside0 (Below w.heap.size w w12) := ⟨h3_⟩
           clear BK182
           clear BK183
           clear HB
           clear h0_ h1_ h2_ h3_
           have HO189 := n0_
           have BK182 := n1_
           have BK183 := n2_
           have HB := n3_
           clear n0_ n1_ n2_ n3_
           have hHeld : w12.cell? ⟨gb182, 0, none⟩ = some (.slice A0_0 l0_0.length c0_0) ∧ w12.cell? ⟨gb182, 1, none⟩ = some (.slice A0_1 l0_1.length c0_1) ∧ w12.cell? ⟨gb182, 2, none⟩ = some (.int .i64 a0_2) := hS_
           refine norm_ (a' := ?_) ?_ ?_
           rotate_left
           ·
            simp only [putAll, Act.put, List.setIfInBounds_toArray, List.set_cons_zero, List.set_cons_succ]
            rfl
           refine two_ (i := 3) (j := 9) (Ni := some 15) (Nj := some 6) #[true, true, true, true, true, true, true, true, false, false, false] #[true, true, true, false, true, true, true, true, false, true, false] rfl rfl rfl rfl (two_of HT_.out (by kernel_rfl)) (by decide) (by decide) (fun K hK => ?_) (fun K hK => ?_)
           ·
            skip
            refine Kd.R_make_step (Kd.int .i64) _ 3 (by rfl) (N := 15) rfl 26 _ _ rfl (l0_0.length : Int) rfl rfl Try.underlying26 (.int .i64 0) 8 info3 rfl (by decide) (by omega) 0 (ok := fun _ => True) (okp := fun _ => True) rfl (fun _ hk => hk) trivial (of_decide_eq_true (by first | (with_reducible assumption) | assumption)) (Nat.le_trans (Nat.mul_le_mul_right _ (of_decide_eq_true (by first | (with_reducible assumption) | assumption) : (l0_0.length : Int).toNat ≤ 35184372088832)) (by omega)) (Below.refl _ _) (Nat.le_refl _) ?_
            intro v185 w13 ho14 hb hg_ hnew_
            clear hg_ hnew_
            (first | rw [← Ny184.out] at ho14 | (simp only [Int.reduceToNat] at ho14; rw [← Ny184.out] at ho14))
            have n0_ := Aside0.mk (Kd.R_elder' (by (with_reducible repeat (first | apply Kd.R_alloc | apply Kd.R_drewN | apply Kd.R_drew)); exact HO189.out) (Kd.R_base ho14) hb)
            have n1_ := Aside0.mk (Kd.R_lower (Kd.R_new' ho14 (Kd.R_lt (by (with_reducible repeat (first | apply Kd.R_alloc | apply Kd.R_drewN | apply Kd.R_drew)); exact HO189.out))) (below_size (by repeat (first | (with_reducible first | exact HB.out | apply below_alloc | apply pw_below_drewN | apply below_drew1 | refine below_set ?_ GE182.out | refine below_set ?_ GE183.out) | exact HB.out))))
            have n2_ := Aside0.mk (blk_below (g := gb182) (o := .cells #[.slice A0_0 l0_0.length c0_0, .slice A0_1 l0_1.length c0_1, .int .i64 a0_2] 25 (0, 0)) (by (with_reducible repeat (first | refine blk_drewN ?_ _ | refine blk_drew ?_ | refine blk_alloc ?_ _)); exact BK182.out) hb)
            have n3_ := Aside0.mk (blk_below (g := gb183) (o := .cells #[.slice none 0 0, .slice none 0 0, .int .i64 0, .int .i64 0, .int .i64 0] 30 (0, 0)) (by (with_reducible repeat (first | refine blk_drewN ?_ _ | refine blk_drew ?_ | refine blk_alloc ?_ _)); exact BK183.out) hb)
            have n4_ := Aside0.mk (below_step (by repeat (first | (with_reducible first | exact HB.out | apply below_alloc | apply pw_below_drewN | apply below_drew1 | refine below_set ?_ GE182.out | refine below_set ?_ GE183.out) | exact HB.out)) hb)
            clear HO189
            clear BK182
            clear BK183
            clear HB
            have HO189 := n0_
            have HO186 := n1_
            have BK182 := n2_
            have BK183 := n3_
            have HB := n4_
            clear n0_ n1_ n2_ n3_ n4_
            clear hb ho14
            obtain ⟨Ao15, co15, eo15⟩ := Kd.R_slice HO189.out
            (first | subst eo15 | (injection eo15 with f1_ f2_ f3_; have f4_ := f1_.symm; have f5_ := f3_.symm; clear f1_ f2_ f3_; subst f4_; subst f5_))
            obtain ⟨Ao16, co16, eo16⟩ := Kd.R_slice HO186.out
            (first | subst eo16 | (injection eo16 with f1_ f2_ f3_; have f4_ := f1_.symm; have f5_ := f3_.symm; clear f1_ f2_ f3_; subst f4_; subst f5_))
            refine hK.out _ _ ⟨(blk_cell BK182.out 0).trans rfl, (blk_cell BK182.out 1).trans rfl, (blk_cell BK182.out 2).trans rfl⟩ (fun hHeld => ?_)
            clear hK K
            refine norm_ (a' := ?_) ?_ ?_
            rotate_left
            ·
             show Act.put _ (some 15) _ = _
             simp only [Act.put, List.setIfInBounds_toArray, List.set_cons_zero, List.set_cons_succ, i64_w, i32_w]
             rfl
            refine pure_ (i := 8) (N := some 20) (v := ?_) (a' := ?_) #[true, true, true, true, true, true, true, true, true, false, false] rfl rfl (any_of HT_.out (by kernel_rfl)) (fun _ _ _ h => h) (Or.inl ⟨by rfl, ?_⟩) ?_ ?_
            rotate_left
            ·
             intro w'
             go_simp
             with_reducible rfl
            rotate_left
            ·
             simp only [Act.put, List.setIfInBounds_toArray, List.set_cons_zero, List.set_cons_succ, i64_w, i32_w]
             rfl
            exact norm_ (by first | (simp only [putAll, Act.put, List.setIfInBounds_toArray, List.set_cons_zero, List.set_cons_succ]; done) | (simp only [putAll, Act.put, List.setIfInBounds_toArray, List.set_cons_zero, List.set_cons_succ]; rfl)) (hJ3_7 (.slice Ao16 y184.length co16, .slice Ao15 y187.length co15) _ ⟨hHeld, (by (with_reducible repeat (first | apply Kd.R_alloc | apply Kd.R_drewN | apply Kd.R_drew)); exact Kd.R_mono HO186.out (fun _ hk => hk.2)), (by (with_reducible repeat (first | apply Kd.R_alloc | apply Kd.R_drewN | apply Kd.R_drew)); exact Kd.R_mono HO189.out (fun _ hk => hk.2)), (by (with_reducible repeat (first | refine blk_drewN ?_ _ | refine blk_drew ?_ | refine blk_alloc ?_ _)); exact BK182.out), (by (with_reducible repeat (first | refine blk_drewN ?_ _ | refine blk_drew ?_ | refine blk_alloc ?_ _)); exact BK183.out), (by repeat (first | (with_reducible first | exact HB.out | apply below_alloc | apply pw_below_drewN | apply below_drew1 | refine below_set ?_ GE182.out | refine below_set ?_ GE183.out) | exact HB.out))⟩)
           ·
            skip
            refine box_step ?hg (N := 6) ?hd (cs := #[.slice none 0 0, .slice none 0 0, .int .i64 0, .int .i64 0, .int .i64 0]) (t := 30) ?hr ?_; (case hd => rfl); (case hg => rfl); (case hr => first | (go_simp; done) | (go_simp; rfl))
            intro gb190 hg w13 hbox hb
            have n0_ := Aside0.mk (Kd.R_below (by (with_reducible repeat (first | apply Kd.R_alloc | apply Kd.R_drewN | apply Kd.R_drew)); exact HO189.out) hb)
            have n1_ := Aside0.mk (blk_below (g := gb182) (o := .cells #[.slice A0_0 l0_0.length c0_0, .slice A0_1 l0_1.length c0_1, .int .i64 a0_2] 25 (0, 0)) (by (with_reducible repeat (first | refine blk_drewN ?_ _ | refine blk_drew ?_ | refine blk_alloc ?_ _)); exact BK182.out) hb)
            have n2_ := Aside0.mk (blk_below (g := gb183) (o := .cells #[.slice none 0 0, .slice none 0 0, .int .i64 0, .int .i64 0, .int .i64 0] 30 (0, 0)) (by (with_reducible repeat (first | refine blk_drewN ?_ _ | refine blk_drew ?_ | refine blk_alloc ?_ _)); exact BK183.out) hb)
            have n3_ := Aside0.mk (below_step (by repeat (first | (with_reducible first | exact HB.out | apply below_alloc | apply pw_below_drewN | apply below_drew1 | refine below_set ?_ GE182.out | refine below_set ?_ GE183.out) | exact HB.out)) hb)
            have n4_ := Aside0.mk (hbox)
            have n5_ := Aside0.mk ((by rw [hg]; exact (below_size (by repeat (first | (with_reducible first | exact HB.out | apply below_alloc | apply pw_below_drewN | apply below_drew1 | refine below_set ?_ GE182.out | refine below_set ?_ GE183.out) | exact HB.out))) : w.heap.size ≤ gb190))
            have n6_ := Aside0.mk ((by rw [hg]; exact (below_size (by repeat (first | (with_reducible first | exact HB.out | apply below_alloc | apply pw_below_drewN | apply below_drew1 | refine below_set ?_ GE182.out | refine below_set ?_ GE183.out) | exact HB.out))) : w.heap.size ≤ gb190))
            have n7_ := Aside0.mk ((by rw [hg]; exact Nat.ne_of_lt (blk_lt (g := gb182) (o := .cells #[.slice A0_0 l0_0.length c0_0, .slice A0_1 l0_1.length c0_1, .int .i64 a0_2] 25 (0, 0)) (by (with_reducible repeat (first | refine blk_drewN ?_ _ | refine blk_drew ?_ | refine blk_alloc ?_ _)); exact BK182.out)) : gb182 ≠ gb190))
            have n8_ := Aside0.mk ((by rw [hg]; exact Nat.ne_of_gt (blk_lt (g := gb182) (o := .cells #[.slice A0_0 l0_0.length c0_0, .slice A0_1 l0_1.length c0_1, .int .i64 a0_2] 25 (0, 0)) (by (with_reducible repeat (first | refine blk_drewN ?_ _ | refine blk_drew ?_ | refine blk_alloc ?_ _)); exact BK182.out)) : gb190 ≠ gb182))
            have n9_ := Aside0.mk ((by rw [hg]; exact Nat.ne_of_lt (blk_lt (g := gb183) (o := .cells #[.slice none 0 0, .slice none 0 0, .int .i64 0, .int .i64 0, .int .i64 0] 30 (0, 0)) (by (with_reducible repeat (first | refine blk_drewN ?_ _ | refine blk_drew ?_ | refine blk_alloc ?_ _)); exact BK183.out)) : gb183 ≠ gb190))
            have n10_ := Aside0.mk ((by rw [hg]; exact Nat.ne_of_gt (blk_lt (g := gb183) (o := .cells #[.slice none 0 0, .slice none 0 0, .int .i64 0, .int .i64 0, .int .i64 0] 30 (0, 0)) (by (with_reducible repeat (first | refine blk_drewN ?_ _ | refine blk_drew ?_ | refine blk_alloc ?_ _)); exact BK183.out)) : gb190 ≠ gb183))
            clear HO189
            clear BK182
            clear BK183
            clear HB
            have HO189 := n0_
            have BK182 := n1_
            have BK183 := n2_
            have HB := n3_
            have BK190 := n4_
            have GW190 := n5_
            have GE190 := n6_
            have NB182_190 := n7_
            have NB190_182 := n8_
            have NB183_190 := n9_
            have NB190_183 := n10_
            clear n0_ n1_ n2_ n3_ n4_ n5_ n6_ n7_ n8_ n9_ n10_
            clear hb hbox hg
            refine hK.out _ _ ⟨(blk_cell BK182.out 0).trans rfl, (blk_cell BK182.out 1).trans rfl, (blk_cell BK182.out 2).trans rfl⟩ (fun hHeld => ?_)
            clear hK K
            refine norm_ (a' := ?_) ?_ ?_
            rotate_left
            ·
             show Act.put _ (some 6) _ = _
             simp only [Act.put, List.setIfInBounds_toArray, List.set_cons_zero, List.set_cons_succ, i64_w, i32_w]
             rfl
            exact norm_ (by first | (simp only [putAll, Act.put, List.setIfInBounds_toArray, List.set_cons_zero, List.set_cons_succ]; done) | (simp only [putAll, Act.put, List.setIfInBounds_toArray, List.set_cons_zero, List.set_cons_succ]; rfl)) (hJ7_9 (v188, gb190) _ ⟨hHeld, (by (with_reducible repeat (first | apply Kd.R_alloc | apply Kd.R_drewN | apply Kd.R_drew)); exact HO189.out), (by (with_reducible repeat (first | refine blk_drewN ?_ _ | refine blk_drew ?_ | refine blk_alloc ?_ _)); exact BK182.out), (by (with_reducible repeat (first | refine blk_drewN ?_ _ | refine blk_drew ?_ | refine blk_alloc ?_ _)); exact BK183.out), (by (with_reducible repeat (first | refine blk_drewN ?_ _ | refine blk_drew ?_ | refine blk_alloc ?_ _)); exact BK190.out), GW190.out, GE190.out, NB182_190.out, NB190_182.out, NB183_190.out, NB190_183.out, (by repeat (first | (with_reducible first | exact HB.out | apply below_alloc | apply pw_below_drewN | apply below_drew1 | refine below_set ?_ GE182.out | refine below_set ?_ GE183.out | refine below_set ?_ GE190.out) | exact HB.out))⟩)
         ·
          skip
          rintro v185 w12 ⟨hS_, h0_, h1_, h2_, h3_⟩
          have n0_ : Aside0 (Kd.R (Kd.int .i64) 3 w12 w.heap.size (fun _ => True) v185 y184) := ⟨h0_⟩
          have n1_ : Aside0 (w12.heap[gb182]? = some (.cells #[.slice A0_0 l0_0.length c0_0, .slice A0_1 l0_1.length c0_1, .int .i64 a0_2] 25 (0, 0))) := ⟨h1_⟩
          have n2_ : Aside0 (w12.heap[gb183]? = some (.cells #[.slice none 0 0, .slice none 0 0, .int .i64 0, .int .i64 0, .int .i64 0] 30 (0, 0))) := ⟨h2_⟩
          have n3_ : Aside0 (Below w.heap.size w w12) := ⟨h3_⟩
          clear BK182
          clear BK183
          clear HB
          clear h0_ h1_ h2_ h3_
          have HO186 := n0_
          have BK182 := n1_
          have BK183 := n2_
          have HB := n3_
          clear n0_ n1_ n2_ n3_
          have hHeld : w12.cell? ⟨gb182, 0, none⟩ = some (.slice A0_0 l0_0.length c0_0) ∧ w12.cell? ⟨gb182, 1, none⟩ = some (.slice A0_1 l0_1.length c0_1) ∧ w12.cell? ⟨gb182, 2, none⟩ = some (.int .i64 a0_2) := hS_
          refine norm_ (a' := ?_) ?_ ?_
          rotate_left
          ·
           simp only [putAll, Act.put, List.setIfInBounds_toArray, List.set_cons_zero, List.set_cons_succ]
           rfl
          refine two_ (i := 7) (j := 9) (Ni := some 19) (Nj := some 6) #[true, true, true, true, true, true, true, true, false, false, false] #[true, true, true, true, true, true, true, false, false, true, false] rfl rfl rfl rfl (two_of HT_.out (by kernel_rfl)) (by decide) (by decide) (fun K hK => ?_) (fun K hK => ?_)
          ·
           skip
           refine Kd.R_make_step (Kd.int .i64) _ 3 (by rfl) (N := 19) rfl 26 _ _ rfl (l0_1.length : Int) rfl rfl Try.underlying26 (.int .i64 0) 8 info3 rfl (by decide) (by omega) 0 (ok := fun _ => True) (okp := fun _ => True) rfl (fun _ hk => hk) trivial (of_decide_eq_true (by first | (with_reducible assumption) | assumption)) (Nat.le_trans (Nat.mul_le_mul_right _ (of_decide_eq_true (by first | (with_reducible assumption) | assumption) : (l0_1.length : Int).toNat ≤ 35184372088832)) (by omega)) (Below.refl _ _) (Nat.le_refl _) ?_
           intro v188 w13 ho14 hb hg_ hnew_
           clear hg_ hnew_
           (first | rw [← Ny187.out] at ho14 | (simp only [Int.reduceToNat] at ho14; rw [← Ny187.out] at ho14))
           have n0_ := Aside0.mk (Kd.R_elder' (by (with_reducible repeat (first | apply Kd.R_alloc | apply Kd.R_drewN | apply Kd.R_drew)); exact HO186.out) (Kd.R_base ho14) hb)
           have n1_ := Aside0.mk (Kd.R_lower (Kd.R_new' ho14 (Kd.R_lt (by (with_reducible repeat (first | apply Kd.R_alloc | apply Kd.R_drewN | apply Kd.R_drew)); exact HO186.out))) (below_size (by repeat (first | (with_reducible first | exact HB.out | apply below_alloc | apply pw_below_drewN | apply below_drew1 | refine below_set ?_ GE182.out | refine below_set ?_ GE183.out) | exact HB.out))))
           have n2_ := Aside0.mk (blk_below (g := gb182) (o := .cells #[.slice A0_0 l0_0.length c0_0, .slice A0_1 l0_1.length c0_1, .int .i64 a0_2] 25 (0, 0)) (by (with_reducible repeat (first | refine blk_drewN ?_ _ | refine blk_drew ?_ | refine blk_alloc ?_ _)); exact BK182.out) hb)
           have n3_ := Aside0.mk (blk_below (g := gb183) (o := .cells #[.slice none 0 0, .slice none 0 0, .int .i64 0, .int .i64 0, .int .i64 0] 30 (0, 0)) (by (with_reducible repeat (first | refine blk_drewN ?_ _ | refine blk_drew ?_ | refine blk_alloc ?_ _)); exact BK183.out) hb)
           have n4_ := Aside0.mk (below_step (by repeat (first | (with_reducible first | exact HB.out | apply below_alloc | apply pw_below_drewN | apply below_drew1 | refine below_set ?_ GE182.out | refine below_set ?_ GE183.out) | exact HB.out)) hb)
           clear HO186
           clear BK182
           clear BK183
           clear HB
           have HO186 := n0_
           have HO189 := n1_
           have BK182 := n2_
           have BK183 := n3_
           have HB := n4_
           clear n0_ n1_ n2_ n3_ n4_
           clear hb ho14
           obtain ⟨Ao15, co15, eo15⟩ := Kd.R_slice HO189.out
           (first | subst eo15 | (injection eo15 with f1_ f2_ f3_; have f4_ := f1_.symm; have f5_ := f3_.symm; clear f1_ f2_ f3_; subst f4_; subst f5_))
           obtain ⟨Ao16, co16, eo16⟩ := Kd.R_slice HO186.out
           (first | subst eo16 | (injection eo16 with f1_ f2_ f3_; have f4_ := f1_.symm; have f5_ := f3_.symm; clear f1_ f2_ f3_; subst f4_; subst f5_))
           refine hK.out _ _ ⟨(blk_cell BK182.out 0).trans rfl, (blk_cell BK182.out 1).trans rfl, (blk_cell BK182.out 2).trans rfl⟩ (fun hHeld => ?_)
           clear hK K
           refine norm_ (a' := ?_) ?_ ?_
           rotate_left
           ·
            show Act.put _ (some 19) _ = _
            simp only [Act.put, List.setIfInBounds_toArray, List.set_cons_zero, List.set_cons_succ, i64_w, i32_w]
            rfl
           refine pure_ (i := 8) (N := some 20) (v := ?_) (a' := ?_) #[true, true, true, true, true, true, true, true, true, false, false] rfl rfl (any_of HT_.out (by kernel_rfl)) (fun _ _ _ h => h) (Or.inl ⟨by rfl, ?_⟩) ?_ ?_
           rotate_left
           ·
            intro w'
            go_simp
            with_reducible rfl
           rotate_left
           ·
            simp only [Act.put, List.setIfInBounds_toArray, List.set_cons_zero, List.set_cons_succ, i64_w, i32_w]
            rfl
           exact norm_ (by first | (simp only [putAll, Act.put, List.setIfInBounds_toArray, List.set_cons_zero, List.set_cons_succ]; done) | (simp only [putAll, Act.put, List.setIfInBounds_toArray, List.set_cons_zero, List.set_cons_succ]; rfl)) (hJ3_7 (.slice Ao16 y184.length co16, .slice Ao15 y187.length co15) _ ⟨hHeld, (by (with_reducible repeat (first | apply Kd.R_alloc | apply Kd.R_drewN | apply Kd.R_drew)); exact Kd.R_mono HO186.out (fun _ hk => hk.2)), (by (with_reducible repeat (first | apply Kd.R_alloc | apply Kd.R_drewN | apply Kd.R_drew)); exact Kd.R_mono HO189.out (fun _ hk => hk.2)), (by (with_reducible repeat (first | refine blk_drewN ?_ _ | refine blk_drew ?_ | refine blk_alloc ?_ _)); exact BK182.out), (by (with_reducible repeat (first | refine blk_drewN ?_ _ | refine blk_drew ?_ | refine blk_alloc ?_ _)); exact BK183.out), (by repeat (first | (with_reducible first | exact HB.out | apply below_alloc | apply pw_below_drewN | apply below_drew1 | refine below_set ?_ GE182.out | refine below_set ?_ GE183.out) | exact HB.out))⟩)
          ·
           skip
           refine box_step ?hg (N := 6) ?hd (cs := #[.slice none 0 0, .slice none 0 0, .int .i64 0, .int .i64 0, .int .i64 0]) (t := 30) ?hr ?_; (case hd => rfl); (case hg => rfl); (case hr => first | (go_simp; done) | (go_simp; rfl))
           intro gb190 hg w13 hbox hb
           have n0_ := Aside0.mk (Kd.R_below (by (with_reducible repeat (first | apply Kd.R_alloc | apply Kd.R_drewN | apply Kd.R_drew)); exact HO186.out) hb)
           have n1_ := Aside0.mk (blk_below (g := gb182) (o := .cells #[.slice A0_0 l0_0.length c0_0, .slice A0_1 l0_1.length c0_1, .int .i64 a0_2] 25 (0, 0)) (by (with_reducible repeat (first | refine blk_drewN ?_ _ | refine blk_drew ?_ | refine blk_alloc ?_ _)); exact BK182.out) hb)
           have n2_ := Aside0.mk (blk_below (g := gb183) (o := .cells #[.slice none 0 0, .slice none 0 0, .int .i64 0, .int .i64 0, .int .i64 0] 30 (0, 0)) (by (with_reducible repeat (first | refine blk_drewN ?_ _ | refine blk_drew ?_ | refine blk_alloc ?_ _)); exact BK183.out) hb)
           have n3_ := Aside0.mk (below_step (by repeat (first | (with_reducible first | exact HB.out | apply below_alloc | apply pw_below_drewN | apply below_drew1 | refine below_set ?_ GE182.out | refine below_set ?_ GE183.out) | exact HB.out)) hb)
           have n4_ := Aside0.mk (hbox)
           have n5_ := Aside0.mk ((by rw [hg]; exact (below_size (by repeat (first | (with_reducible first | exact HB.out | apply below_alloc | apply pw_below_drewN | apply below_drew1 | refine below_set ?_ GE182.out | refine below_set ?_ GE183.out) | exact HB.out))) : w.heap.size ≤ gb190))
           have n6_ := Aside0.mk ((by rw [hg]; exact (below_size (by repeat (first | (with_reducible first | exact HB.out | apply below_alloc | apply pw_below_drewN | apply below_drew1 | refine below_set ?_ GE182.out | refine below_set ?_ GE183.out) | exact HB.out))) : w.heap.size ≤ gb190))
           have n7_ := Aside0.mk ((by rw [hg]; exact Nat.ne_of_lt (blk_lt (g := gb182) (o := .cells #[.slice A0_0 l0_0.length c0_0, .slice A0_1 l0_1.length c0_1, .int .i64 a0_2] 25 (0, 0)) (by (with_reducible repeat (first | refine blk_drewN ?_ _ | refine blk_drew ?_ | refine blk_alloc ?_ _)); exact BK182.out)) : gb182 ≠ gb190))
           have n8_ := Aside0.mk ((by rw [hg]; exact Nat.ne_of_gt (blk_lt (g := gb182) (o := .cells #[.slice A0_0 l0_0.length c0_0, .slice A0_1 l0_1.length c0_1, .int .i64 a0_2] 25 (0, 0)) (by (with_reducible repeat (first | refine blk_drewN ?_ _ | refine blk_drew ?_ | refine blk_alloc ?_ _)); exact BK182.out)) : gb190 ≠ gb182))
           have n9_ := Aside0.mk ((by rw [hg]; exact Nat.ne_of_lt (blk_lt (g := gb183) (o := .cells #[.slice none 0 0, .slice none 0 0, .int .i64 0, .int .i64 0, .int .i64 0] 30 (0, 0)) (by (with_reducible repeat (first | refine blk_drewN ?_ _ | refine blk_drew ?_ | refine blk_alloc ?_ _)); exact BK183.out)) : gb183 ≠ gb190))
           have n10_ := Aside0.mk ((by rw [hg]; exact Nat.ne_of_gt (blk_lt (g := gb183) (o := .cells #[.slice none 0 0, .slice none 0 0, .int .i64 0, .int .i64 0, .int .i64 0] 30 (0, 0)) (by (with_reducible repeat (first | refine blk_drewN ?_ _ | refine blk_drew ?_ | refine blk_alloc ?_ _)); exact BK183.out)) : gb190 ≠ gb183))
           clear HO186
           clear BK182
           clear BK183
           clear HB
           have HO186 := n0_
           have BK182 := n1_
           have BK183 := n2_
           have HB := n3_
           have BK190 := n4_
           have GW190 := n5_
           have GE190 := n6_
           have NB182_190 := n7_
           have NB190_182 := n8_
           have NB183_190 := n9_
           have NB190_183 := n10_
           clear n0_ n1_ n2_ n3_ n4_ n5_ n6_ n7_ n8_ n9_ n10_
           clear hb hbox hg
           refine hK.out _ _ ⟨(blk_cell BK182.out 0).trans rfl, (blk_cell BK182.out 1).trans rfl, (blk_cell BK182.out 2).trans rfl⟩ (fun hHeld => ?_)
           clear hK K
           refine norm_ (a' := ?_) ?_ ?_
           rotate_left
           ·
            show Act.put _ (some 6) _ = _
            simp only [Act.put, List.setIfInBounds_toArray, List.set_cons_zero, List.set_cons_succ, i64_w, i32_w]
            rfl
           exact norm_ (by first | (simp only [putAll, Act.put, List.setIfInBounds_toArray, List.set_cons_zero, List.set_cons_succ]; done) | (simp only [putAll, Act.put, List.setIfInBounds_toArray, List.set_cons_zero, List.set_cons_succ]; rfl)) (hJ3_9 (v185, gb190) _ ⟨hHeld, (by (with_reducible repeat (first | apply Kd.R_alloc | apply Kd.R_drewN | apply Kd.R_drew)); exact HO186.out), (by (with_reducible repeat (first | refine blk_drewN ?_ _ | refine blk_drew ?_ | refine blk_alloc ?_ _)); exact BK182.out), (by (with_reducible repeat (first | refine blk_drewN ?_ _ | refine blk_drew ?_ | refine blk_alloc ?_ _)); exact BK183.out), (by (with_reducible repeat (first | refine blk_drewN ?_ _ | refine blk_drew ?_ | refine blk_alloc ?_ _)); exact BK190.out), GW190.out, GE190.out, NB182_190.out, NB190_182.out, NB183_190.out, NB190_183.out, (by repeat (first | (with_reducible first | exact HB.out | apply below_alloc | apply pw_below_drewN | apply below_drew1 | refine below_set ?_ GE182.out | refine below_set ?_ GE183.out | refine below_set ?_ GE190.out) | exact HB.out))⟩)
        ·
         skip
         rintro ⟨v188, gb190⟩ w13 ⟨hS_, h0_, h1_, h2_, h3_, h4_, h5_, h6_, h7_, h8_, h9_, h10_⟩
         have n0_ : Aside0 (Kd.R (Kd.int .i64) 3 w13 w.heap.size (fun _ => True) v188 y187) := ⟨h0_⟩
         have n1_ : Aside0 (w13.heap[gb182]? = some (.cells #[.slice A0_0 l0_0.length c0_0, .slice A0_1 l0_1.length c0_1, .int .i64 a0_2] 25 (0, 0))) := ⟨h1_⟩
         have n2_ : Aside0 (w13.heap[gb183]? = some (.cells #[.slice none 0 0, .slice none 0 0, .int .i64 0, .int .i64 0, .int .i64 0] 30 (0, 0))) := ⟨h2_⟩
         have n3_ : Aside0 (w13.heap[gb190]? = some (.cells #[.slice none 0 0, .slice none 0 0, .int .i64 0, .int .i64 0, .int .i64 0] 30 (0, 0))) := ⟨h3_⟩
         have n4_ : Aside0 (w.heap.size ≤ gb190) := ⟨h4_⟩
         have n5_ : Aside0 (w.heap.size ≤ gb190) := ⟨h5_⟩
         have n6_ : Aside0 (gb182 ≠ gb190) := ⟨h6_⟩
         have n7_ : Aside0 (gb190 ≠ gb182) := ⟨h7_⟩
         have n8_ : Aside0 (gb183 ≠ gb190) := ⟨h8_⟩
         have n9_ : Aside0 (gb190 ≠ gb183) := ⟨h9_⟩
         have n10_ : Aside0 (Below w.heap.size w w13) := ⟨h10_⟩
         clear BK182
         clear BK183
         clear HB
         clear h0_ h1_ h2_ h3_ h4_ h5_ h6_ h7_ h8_ h9_ h10_
         have HO189 := n0_
         have BK182 := n1_
         have BK183 := n2_
         have BK190 := n3_
         have GW190 := n4_
         have GE190 := n5_
         have NB182_190 := n6_
         have NB190_182 := n7_
         have NB183_190 := n8_
         have NB190_183 := n9_
         have HB := n10_
         clear n0_ n1_ n2_ n3_ n4_ n5_ n6_ n7_ n8_ n9_ n10_
         have hHeld : w13.cell? ⟨gb182, 0, none⟩ = some (.slice A0_0 l0_0.length c0_0) ∧ w13.cell? ⟨gb182, 1, none⟩ = some (.slice A0_1 l0_1.length c0_1) ∧ w13.cell? ⟨gb182, 2, none⟩ = some (.int .i64 a0_2) := hS_
         refine norm_ (a' := ?_) ?_ ?_
         rotate_left
         ·
          simp only [putAll, Act.put, List.setIfInBounds_toArray, List.set_cons_zero, List.set_cons_succ]
          rfl
         refine one_ (i := 3) (N := some 15) #[true, true, true, true, true, true, true, true, false, true, false] rfl rfl (one_of HT_.out (by kernel_rfl)) (by decide) (fun K hK => ?_)
         refine Kd.R_make_step (Kd.int .i64) _ 3 (by rfl) (N := 15) rfl 26 _ _ rfl (l0_0.length : Int) rfl rfl Try.underlying26 (.int .i64 0) 8 info3 rfl (by decide) (by omega) 0 (ok := fun _ => True) (okp := fun _ => True) rfl (fun _ hk => hk) trivial (of_decide_eq_true (by first | (with_reducible assumption) | assumption)) (Nat.le_trans (Nat.mul_le_mul_right _ (of_decide_eq_true (by first | (with_reducible assumption) | assumption) : (l0_0.length : Int).toNat ≤ 35184372088832)) (by omega)) (Below.refl _ _) (Nat.le_refl _) ?_
         intro v185 w14 ho15 hb hg_ hnew_
         clear hg_ hnew_
         (first | rw [← Ny184.out] at ho15 | (simp only [Int.reduceToNat] at ho15; rw [← Ny184.out] at ho15))
         have n0_ := Aside0.mk (Kd.R_elder' (by (with_reducible repeat (first | apply Kd.R_alloc | apply Kd.R_drewN | apply Kd.R_drew)); exact HO189.out) (Kd.R_base ho15) hb)
         have n1_ := Aside0.mk (Kd.R_lower (Kd.R_new' ho15 (Kd.R_lt (by (with_reducible repeat (first | apply Kd.R_alloc | apply Kd.R_drewN | apply Kd.R_drew)); exact HO189.out))) (below_size (by repeat (first | (with_reducible first | exact HB.out | apply below_alloc | apply pw_below_drewN | apply below_drew1 | refine below_set ?_ GE182.out | refine below_set ?_ GE183.out | refine below_set ?_ GE190.out) | exact HB.out))))
         have n2_ := Aside0.mk (blk_below (g := gb182) (o := .cells #[.slice A0_0 l0_0.length c0_0, .slice A0_1 l0_1.length c0_1, .int .i64 a0_2] 25 (0, 0)) (by (with_reducible repeat (first | refine blk_drewN ?_ _ | refine blk_drew ?_ | refine blk_alloc ?_ _)); exact BK182.out) hb)
         have n3_ := Aside0.mk (blk_below (g := gb183) (o := .cells #[.slice none 0 0, .slice none 0 0, .int .i64 0, .int .i64 0, .int .i64 0] 30 (0, 0)) (by (with_reducible repeat (first | refine blk_drewN ?_ _ | refine blk_drew ?_ | refine blk_alloc ?_ _)); exact BK183.out) hb)
         have n4_ := Aside0.mk (blk_below (g := gb190) (o := .cells #[.slice none 0 0, .slice none 0 0, .int .i64 0, .int .i64 0, .int .i64 0] 30 (0, 0)) (by (with_reducible repeat (first | refine blk_drewN ?_ _ | refine blk_drew ?_ | refine blk_alloc ?_ _)); exact BK190.out) hb)
         have n5_ := Aside0.mk (below_step (by repeat (first | (with_reducible first | exact HB.out | apply below_alloc | apply pw_below_drewN | apply below_drew1 | refine below_set ?_ GE182.out | refine below_set ?_ GE183.out | refine below_set ?_ GE190.out) | exact HB.out)) hb)
         clear HO189
         clear BK182
         clear BK183
         clear BK190
         clear HB
         have HO189 := n0_
         have HO186 := n1_
         have BK182 := n2_
         have BK183 := n3_
         have BK190 := n4_
         have HB := n5_
         clear n0_ n1_ n2_ n3_ n4_ n5_
         clear hb ho15
         obtain ⟨Ao16, co16, eo16⟩ := Kd.R_slice HO189.out
         (first | subst eo16 | (injection eo16 with f1_ f2_ f3_; have f4_ := f1_.symm; have f5_ := f3_.symm; clear f1_ f2_ f3_; subst f4_; subst f5_))
         obtain ⟨Ao17, co17, eo17⟩ := Kd.R_slice HO186.out
         (first | subst eo17 | (injection eo17 with f1_ f2_ f3_; have f4_ := f1_.symm; have f5_ := f3_.symm; clear f1_ f2_ f3_; subst f4_; subst f5_))
         refine hK.out _ _ ⟨(blk_cell BK182.out 0).trans rfl, (blk_cell BK182.out 1).trans rfl, (blk_cell BK182.out 2).trans rfl⟩ (fun hHeld => ?_)
         clear hK K
         refine norm_ (a' := ?_) ?_ ?_
         rotate_left
         ·
          show Act.put _ (some 15) _ = _
          simp only [Act.put, List.setIfInBounds_toArray, List.set_cons_zero, List.set_cons_succ, i64_w, i32_w]
          rfl
         refine pure_ (i := 8) (N := some 20) (v := ?_) (a' := ?_) #[true, true, true, true, true, true, true, true, true, true, false] rfl rfl (any_of HT_.out (by kernel_rfl)) (fun _ _ _ h => h) (Or.inl ⟨by rfl, ?_⟩) ?_ ?_
         rotate_left
         ·
          intro w'
          go_simp
          with_reducible rfl
         rotate_left
         ·
          simp only [Act.put, List.setIfInBounds_toArray, List.set_cons_zero, List.set_cons_succ, i64_w, i32_w]
          rfl
         exact norm_ (by first | (simp only [putAll, Act.put, List.setIfInBounds_toArray, List.set_cons_zero, List.set_cons_succ]; done) | (simp only [putAll, Act.put, List.setIfInBounds_toArray, List.set_cons_zero, List.set_cons_succ]; rfl)) (hJ3_7_9 (.slice Ao17 y184.length co17, .slice Ao16 y187.length co16, gb190) _ ⟨hHeld, (by (with_reducible repeat (first | apply Kd.R_alloc | apply Kd.R_drewN | apply Kd.R_drew)); exact Kd.R_mono HO186.out (fun _ hk => hk.2)), (by (with_reducible repeat (first | apply Kd.R_alloc | apply Kd.R_drewN | apply Kd.R_drew)); exact Kd.R_mono HO189.out (fun _ hk => hk.2)), (by (with_reducible repeat (first | refine blk_drewN ?_ _ | refine blk_drew ?_ | refine blk_alloc ?_ _)); exact BK182.out), (by (with_reducible repeat (first | refine blk_drewN ?_ _ | refine blk_drew ?_ | refine blk_alloc ?_ _)); exact BK183.out), (by (with_reducible repeat (first | refine blk_drewN ?_ _ | refine blk_drew ?_ | refine blk_alloc ?_ _)); exact BK190.out), GW190.out, GE190.out, NB182_190.out, NB190_182.out, NB183_190.out, NB190_183.out, (by repeat (first | (with_reducible first | exact HB.out | apply below_alloc | apply pw_below_drewN | apply below_drew1 | refine below_set ?_ GE182.out | refine below_set ?_ GE183.out | refine below_set ?_ GE190.out) | exact HB.out))⟩)
       ·
        skip
        rintro ⟨v185, gb190⟩ w13 ⟨hS_, h0_, h1_, h2_, h3_, h4_, h5_, h6_, h7_, h8_, h9_, h10_⟩
        have n0_ : Aside0 (Kd.R (Kd.int .i64) 3 w13 w.heap.size (fun _ => True) v185 y184) := ⟨h0_⟩
        have n1_ : Aside0 (w13.heap[gb182]? = some (.cells #[.slice A0_0 l0_0.length c0_0, .slice A0_1 l0_1.length c0_1, .int .i64 a0_2] 25 (0, 0))) := ⟨h1_⟩
        have n2_ : Aside0 (w13.heap[gb183]? = some (.cells #[.slice none 0 0, .slice none 0 0, .int .i64 0, .int .i64 0, .int .i64 0] 30 (0, 0))) := ⟨h2_⟩
        have n3_ : Aside0 (w13.heap[gb190]? = some (.cells #[.slice none 0 0, .slice none 0 0, .int .i64 0, .int .i64 0, .int .i64 0] 30 (0, 0))) := ⟨h3_⟩
        have n4_ : Aside0 (w.heap.size ≤ gb190) := ⟨h4_⟩
        have n5_ : Aside0 (w.heap.size ≤ gb190) := ⟨h5_⟩
        have n6_ : Aside0 (gb182 ≠ gb190) := ⟨h6_⟩
        have n7_ : Aside0 (gb190 ≠ gb182) := ⟨h7_⟩
        have n8_ : Aside0 (gb183 ≠ gb190) := ⟨h8_⟩
        have n9_ : Aside0 (gb190 ≠ gb183) := ⟨h9_⟩
        have n10_ : Aside0 (Below w.heap.size w w13) := ⟨h10_⟩
        clear BK182
        clear BK183
        clear HB
        clear h0_ h1_ h2_ h3_ h4_ h5_ h6_ h7_ h8_ h9_ h10_
        have HO186 := n0_
        have BK182 := n1_
        have BK183 := n2_
        have BK190 := n3_
        have GW190 := n4_
        have GE190 := n5_
        have NB182_190 := n6_
        have NB190_182 := n7_
        have NB183_190 := n8_
        have NB190_183 := n9_
        have HB := n10_
        clear n0_ n1_ n2_ n3_ n4_ n5_ n6_ n7_ n8_ n9_ n10_
        have hHeld : w13.cell? ⟨gb182, 0, none⟩ = some (.slice A0_0 l0_0.length c0_0) ∧ w13.cell? ⟨gb182, 1, none⟩ = some (.slice A0_1 l0_1.length c0_1) ∧ w13.cell? ⟨gb182, 2, none⟩ = some (.int .i64 a0_2) := hS_
        refine norm_ (a' := ?_) ?_ ?_
        rotate_left
        ·
         simp only [putAll, Act.put, List.setIfInBounds_toArray, List.set_cons_zero, List.set_cons_succ]
         rfl
        refine one_ (i := 7) (N := some 19) #[true, true, true, true, true, true, true, true, false, true, false] rfl rfl (one_of HT_.out (by kernel_rfl)) (by decide) (fun K hK => ?_)
        refine Kd.R_make_step (Kd.int .i64) _ 3 (by rfl) (N := 19) rfl 26 _ _ rfl (l0_1.length : Int) rfl rfl Try.underlying26 (.int .i64 0) 8 info3 rfl (by decide) (by omega) 0 (ok := fun _ => True) (okp := fun _ => True) rfl (fun _ hk => hk) trivial (of_decide_eq_true (by first | (with_reducible assumption) | assumption)) (Nat.le_trans (Nat.mul_le_mul_right _ (of_decide_eq_true (by first | (with_reducible assumption) | assumption) : (l0_1.length : Int).toNat ≤ 35184372088832)) (by omega)) (Below.refl _ _) (Nat.le_refl _) ?_
        intro v188 w14 ho15 hb hg_ hnew_
        clear hg_ hnew_
        (first | rw [← Ny187.out] at ho15 | (simp only [Int.reduceToNat] at ho15; rw [← Ny187.out] at ho15))
        have n0_ := Aside0.mk (Kd.R_elder' (by (with_reducible repeat (first | apply Kd.R_alloc | apply Kd.R_drewN | apply Kd.R_drew)); exact HO186.out) (Kd.R_base ho15) hb)
        have n1_ := Aside0.mk (Kd.R_lower (Kd.R_new' ho15 (Kd.R_lt (by (with_reducible repeat (first | apply Kd.R_alloc | apply Kd.R_drewN | apply Kd.R_drew)); exact HO186.out))) (below_size (by repeat (first | (with_reducible first | exact HB.out | apply below_alloc | apply pw_below_drewN | apply below_drew1 | refine below_set ?_ GE182.out | refine below_set ?_ GE183.out | refine below_set ?_ GE190.out) | exact HB.out))))
        have n2_ := Aside0.mk (blk_below (g := gb182) (o := .cells #[.slice A0_0 l0_0.length c0_0, .slice A0_1 l0_1.length c0_1, .int .i64 a0_2] 25 (0, 0)) (by (with_reducible repeat (first | refine blk_drewN ?_ _ | refine blk_drew ?_ | refine blk_alloc ?_ _)); exact BK182.out) hb)
        have n3_ := Aside0.mk (blk_below (g := gb183) (o := .cells #[.slice none 0 0, .slice none 0 0, .int .i64 0, .int .i64 0, .int .i64 0] 30 (0, 0)) (by (with_reducible repeat (first | refine blk_drewN ?_ _ | refine blk_drew ?_ | refine blk_alloc ?_ _)); exact BK183.out) hb)
        have n4_ := Aside0.mk (blk_below (g := gb190) (o := .cells #[.slice none 0 0, .slice none 0 0, .int .i64 0, .int .i64 0, .int .i64 0] 30 (0, 0)) (by (with_reducible repeat (first | refine blk_drewN ?_ _ | refine blk_drew ?_ | refine blk_alloc ?_ _)); exact BK190.out) hb)
        have n5_ := Aside0.mk (below_step (by repeat (first | (with_reducible first | exact HB.out | apply below_alloc | apply pw_below_drewN | apply below_drew1 | refine below_set ?_ GE182.out | refine below_set ?_ GE183.out | refine below_set ?_ GE190.out) | exact HB.out)) hb)
        clear HO186
        clear BK182
        clear BK183
        clear BK190
        clear HB
        have HO186 := n0_
        have HO189 := n1_
        have BK182 := n2_
        have BK183 := n3_
        have BK190 := n4_
        have HB := n5_
        clear n0_ n1_ n2_ n3_ n4_ n5_
        clear hb ho15
        obtain ⟨Ao16, co16, eo16⟩ := Kd.R_slice HO189.out
        (first | subst eo16 | (injection eo16 with f1_ f2_ f3_; have f4_ := f1_.symm; have f5_ := f3_.symm; clear f1_ f2_ f3_; subst f4_; subst f5_))
        obtain ⟨Ao17, co17, eo17⟩ := Kd.R_slice HO186.out
        (first | subst eo17 | (injection eo17 with f1_ f2_ f3_; have f4_ := f1_.symm; have f5_ := f3_.symm; clear f1_ f2_ f3_; subst f4_; subst f5_))
        refine hK.out _ _ ⟨(blk_cell BK182.out 0).trans rfl, (blk_cell BK182.out 1).trans rfl, (blk_cell BK182.out 2).trans rfl⟩ (fun hHeld => ?_)
        clear hK K
        refine norm_ (a' := ?_) ?_ ?_
        rotate_left
        ·
         show Act.put _ (some 19) _ = _
         simp only [Act.put, List.setIfInBounds_toArray, List.set_cons_zero, List.set_cons_succ, i64_w, i32_w]
         rfl
        refine pure_ (i := 8) (N := some 20) (v := ?_) (a' := ?_) #[true, true, true, true, true, true, true, true, true, true, false] rfl rfl (any_of HT_.out (by kernel_rfl)) (fun _ _ _ h => h) (Or.inl ⟨by rfl, ?_⟩) ?_ ?_
        rotate_left
        ·
         intro w'
         go_simp
         with_reducible rfl
        rotate_left
        ·
         simp only [Act.put, List.setIfInBounds_toArray, List.set_cons_zero, List.set_cons_succ, i64_w, i32_w]
         rfl
        exact norm_ (by first | (simp only [putAll, Act.put, List.setIfInBounds_toArray, List.set_cons_zero, List.set_cons_succ]; done) | (simp only [putAll, Act.put, List.setIfInBounds_toArray, List.set_cons_zero, List.set_cons_succ]; rfl)) (hJ3_7_9 (.slice Ao17 y184.length co17, .slice Ao16 y187.length co16, gb190) _ ⟨hHeld, (by (with_reducible repeat (first | apply Kd.R_alloc | apply Kd.R_drewN | apply Kd.R_drew)); exact Kd.R_mono HO186.out (fun _ hk => hk.2)), (by (with_reducible repeat (first | apply Kd.R_alloc | apply Kd.R_drewN | apply Kd.R_drew)); exact Kd.R_mono HO189.out (fun _ hk => hk.2)), (by (with_reducible repeat (first | refine blk_drewN ?_ _ | refine blk_drew ?_ | refine blk_alloc ?_ _)); exact BK182.out), (by (with_reducible repeat (first | refine blk_drewN ?_ _ | refine blk_drew ?_ | refine blk_alloc ?_ _)); exact BK183.out), (by (with_reducible repeat (first | refine blk_drewN ?_ _ | refine blk_drew ?_ | refine blk_alloc ?_ _)); exact BK190.out), GW190.out, GE190.out, NB182_190.out, NB190_182.out, NB183_190.out, NB190_183.out, (by repeat (first | (with_reducible first | exact HB.out | apply below_alloc | apply pw_below_drewN | apply below_drew1 | refine below_set ?_ GE182.out | refine below_set ?_ GE183.out | refine below_set ?_ GE190.out) | exact HB.out))⟩)
      ·
       skip
       rintro ⟨v185, v188⟩ w16 ⟨hS_, h0_, h1_, h2_, h3_, h4_⟩
       have n0_ : Aside0 (Kd.R (Kd.int .i64) 3 w16 w.heap.size (fun k_ => some k_ ≠ (v188 : Value).ownBlock) v185 y184) := ⟨h0_⟩
       have n1_ : Aside0 (Kd.R (Kd.int .i64) 3 w16 w.heap.size (fun k_ => some k_ ≠ (v185 : Value).ownBlock) v188 y187) := ⟨h1_⟩
       have n2_ : Aside0 (w16.heap[gb182]? = some (.cells #[.slice A0_0 l0_0.length c0_0, .slice A0_1 l0_1.length c0_1, .int .i64 a0_2] 25 (0, 0))) := ⟨h2_⟩
       have n3_ : Aside0 (w16.heap[gb183]? = some (.cells #[.slice none 0 0, .slice none 0 0, .int .i64 0, .int .i64 0, .int .i64 0] 30 (0, 0))) := ⟨h3_⟩
       have n4_ : Aside0 (Below w.heap.size w w16) := ⟨h4_⟩
       clear BK182
       clear BK183
       clear HB
       clear h0_ h1_ h2_ h3_ h4_
       have HO186 := n0_
       have HO189 := n1_
       have BK182 := n2_
       have BK183 := n3_
       have HB := n4_
       clear n0_ n1_ n2_ n3_ n4_
       have hHeld : w16.cell? ⟨gb182, 0, none⟩ = some (.slice A0_0 l0_0.length c0_0) ∧ w16.cell? ⟨gb182, 1, none⟩ = some (.slice A0_1 l0_1.length c0_1) ∧ w16.cell? ⟨gb182, 2, none⟩ = some (.int .i64 a0_2) := hS_
       obtain ⟨Ao17, co17, eo17⟩ := Kd.R_slice HO189.out
       (first | subst eo17 | (injection eo17 with f1_ f2_ f3_; have f4_ := f1_.symm; have f5_ := f3_.symm; clear f1_ f2_ f3_; subst f4_; subst f5_))
       obtain ⟨Ao18, co18, eo18⟩ := Kd.R_slice HO186.out
       (first | subst eo18 | (injection eo18 with f1_ f2_ f3_; have f4_ := f1_.symm; have f5_ := f3_.symm; clear f1_ f2_ f3_; subst f4_; subst f5_))
       refine norm_ (a' := ?_) ?_ ?_
       rotate_left
       ·
        simp only [putAll, Act.put, List.setIfInBounds_toArray, List.set_cons_zero, List.set_cons_succ]
        rfl
       refine one_ (i := 9) (N := some 6) #[true, true, true, true, true, true, true, true, true, true, false] rfl rfl (one_of HT_.out (by kernel_rfl)) (by decide) (fun K hK => ?_)
       refine box_step ?hg (N := 6) ?hd (cs := #[.slice none 0 0, .slice none 0 0, .int .i64 0, .int .i64 0, .int .i64 0]) (t := 30) ?hr ?_; (case hd => rfl); (case hg => rfl); (case hr => first | (go_simp; done) | (go_simp; rfl))
       intro gb190 hg w19 hbox hb
       have n0_ := Aside0.mk (Kd.R_below (by (with_reducible repeat (first | apply Kd.R_alloc | apply Kd.R_drewN | apply Kd.R_drew)); exact HO186.out) hb)
       have n1_ := Aside0.mk (Kd.R_below (by (with_reducible repeat (first | apply Kd.R_alloc | apply Kd.R_drewN | apply Kd.R_drew)); exact HO189.out) hb)
       have n2_ := Aside0.mk (blk_below (g := gb182) (o := .cells #[.slice A0_0 l0_0.length c0_0, .slice A0_1 l0_1.length c0_1, .int .i64 a0_2] 25 (0, 0)) (by (with_reducible repeat (first | refine blk_drewN ?_ _ | refine blk_drew ?_ | refine blk_alloc ?_ _)); exact BK182.out) hb)
       have n3_ := Aside0.mk (blk_below (g := gb183) (o := .cells #[.slice none 0 0, .slice none 0 0, .int .i64 0, .int .i64 0, .int .i64 0] 30 (0, 0)) (by (with_reducible repeat (first | refine blk_drewN ?_ _ | refine blk_drew ?_ | refine blk_alloc ?_ _)); exact BK183.out) hb)
       have n4_ := Aside0.mk (below_step (by repeat (first | (with_reducible first | exact HB.out | apply below_alloc | apply pw_below_drewN | apply below_drew1 | refine below_set ?_ GE182.out | refine below_set ?_ GE183.out) | exact HB.out)) hb)
       have n5_ := Aside0.mk (hbox)
       have n6_ := Aside0.mk ((by rw [hg]; exact (below_size (by repeat (first | (with_reducible first | exact HB.out | apply below_alloc | apply pw_below_drewN | apply below_drew1 | refine below_set ?_ GE182.out | refine below_set ?_ GE183.out) | exact HB.out))) : w.heap.size ≤ gb190))
       have n7_ := Aside0.mk ((by rw [hg]; exact (below_size (by repeat (first | (with_reducible first | exact HB.out | apply below_alloc | apply pw_below_drewN | apply below_drew1 | refine below_set ?_ GE182.out | refine below_set ?_ GE183.out) | exact HB.out))) : w.heap.size ≤ gb190))
       have n8_ := Aside0.mk ((by rw [hg]; exact Nat.ne_of_lt (blk_lt (g := gb182) (o := .cells #[.slice A0_0 l0_0.length c0_0, .slice A0_1 l0_1.length c0_1, .int .i64 a0_2] 25 (0, 0)) (by (with_reducible repeat (first | refine blk_drewN ?_ _ | refine blk_drew ?_ | refine blk_alloc ?_ _)); exact BK182.out)) : gb182 ≠ gb190))
       have n9_ := Aside0.mk ((by rw [hg]; exact Nat.ne_of_gt (blk_lt (g := gb182) (o := .cells #[.slice A0_0 l0_0.length c0_0, .slice A0_1 l0_1.length c0_1, .int .i64 a0_2] 25 (0, 0)) (by (with_reducible repeat (first | refine blk_drewN ?_ _ | refine blk_drew ?_ | refine blk_alloc ?_ _)); exact BK182.out)) : gb190 ≠ gb182))
       have n10_ := Aside0.mk ((by rw [hg]; exact Nat.ne_of_lt (blk_lt (g := gb183) (o := .cells #[.slice none 0 0, .slice none 0 0, .int .i64 0, .int .i64 0, .int .i64 0] 30 (0, 0)) (by (with_reducible repeat (first | refine blk_drewN ?_ _ | refine blk_drew ?_ | refine blk_alloc ?_ _)); exact BK183.out)) : gb183 ≠ gb190))
       have n11_ := Aside0.mk ((by rw [hg]; exact Nat.ne_of_gt (blk_lt (g := gb183) (o := .cells #[.slice none 0 0, .slice none 0 0, .int .i64 0, .int .i64 0, .int .i64 0] 30 (0, 0)) (by (with_reducible repeat (first | refine blk_drewN ?_ _ | refine blk_drew ?_ | refine blk_alloc ?_ _)); exact BK183.out)) : gb190 ≠ gb183))
       clear HO186
       clear HO189
       clear BK182
       clear BK183
       clear HB
       have HO186 := n0_
       have HO189 := n1_
       have BK182 := n2_
       have BK183 := n3_
       have HB := n4_
       have BK190 := n5_
       have GW190 := n6_
       have GE190 := n7_
       have NB182_190 := n8_
       have NB190_182 := n9_
       have NB183_190 := n10_
       have NB190_183 := n11_
       clear n0_ n1_ n2_ n3_ n4_ n5_ n6_ n7_ n8_ n9_ n10_ n11_
       clear hb hbox hg
       refine hK.out _ _ ⟨(blk_cell BK182.out 0).trans rfl, (blk_cell BK182.out 1).trans rfl, (blk_cell BK182.out 2).trans rfl⟩ (fun hHeld => ?_)
       clear hK K
       refine norm_ (a' := ?_) ?_ ?_
       rotate_left
       ·
        show Act.put _ (some 6) _ = _
        simp only [Act.put, List.setIfInBounds_toArray, List.set_cons_zero, List.set_cons_succ, i64_w, i32_w]
        rfl
       exact norm_ (by first | (simp only [putAll, Act.put, List.setIfInBounds_toArray, List.set_cons_zero, List.set_cons_succ]; done) | (simp only [putAll, Act.put, List.setIfInBounds_toArray, List.set_cons_zero, List.set_cons_succ]; rfl)) (hJ3_7_9 (.slice Ao18 y184.length co18, .slice Ao17 y187.length co17, gb190) _ ⟨hHeld, (by (with_reducible repeat (first | apply Kd.R_alloc | apply Kd.R_drewN | apply Kd.R_drew)); exact HO186.out), (by (with_reducible repeat (first | apply Kd.R_alloc | apply Kd.R_drewN | apply Kd.R_drew)); exact HO189.out), (by (with_reducible repeat (first | refine blk_drewN ?_ _ | refine blk_drew ?_ | refine blk_alloc ?_ _)); exact BK182.out), (by (with_reducible repeat (first | refine blk_drewN ?_ _ | refine blk_drew ?_ | refine blk_alloc ?_ _)); exact BK183.out), (by (with_reducible repeat (first | refine blk_drewN ?_ _ | refine blk_drew ?_ | refine blk_alloc ?_ _)); exact BK190.out), GW190.out, GE190.out, NB182_190.out, NB190_182.out, NB183_190.out, NB190_183.out, (by repeat (first | (with_reducible first | exact HB.out | apply below_alloc | apply pw_below_drewN | apply below_drew1 | refine below_set ?_ GE182.out | refine below_set ?_ GE183.out | refine below_set ?_ GE190.out) | exact HB.out))⟩)
     rintro ⟨v185, v188, gb190⟩ w17 ⟨hS_, h0_, h1_, h2_, h3_, h4_, h5_, h6_, h7_, h8_, h9_, h10_, h11_⟩
     have n0_ : Aside0 (Kd.R (Kd.int .i64) 3 w17 w.heap.size (fun k_ => some k_ ≠ (v188 : Value).ownBlock) v185 y184) := ⟨h0_⟩
     have n1_ : Aside0 (Kd.R (Kd.int .i64) 3 w17 w.heap.size (fun k_ => some k_ ≠ (v185 : Value).ownBlock) v188 y187) := ⟨h1_⟩
     have n2_ : Aside0 (w17.heap[gb182]? = some (.cells #[.slice A0_0 l0_0.length c0_0, .slice A0_1 l0_1.length c0_1, .int .i64 a0_2] 25 (0, 0))) := ⟨h2_⟩
     have n3_ : Aside0 (w17.heap[gb183]? = some (.cells #[.slice none 0 0, .slice none 0 0, .int .i64 0, .int .i64 0, .int .i64 0] 30 (0, 0))) := ⟨h3_⟩
     have n4_ : Aside0 (w17.heap[gb190]? = some (.cells #[.slice none 0 0, .slice none 0 0, .int .i64 0, .int .i64 0, .int .i64 0] 30 (0, 0))) := ⟨h4_⟩
     have n5_ : Aside0 (w.heap.size ≤ gb190) := ⟨h5_⟩
     have n6_ : Aside0 (w.heap.size ≤ gb190) := ⟨h6_⟩
     have n7_ : Aside0 (gb182 ≠ gb190) := ⟨h7_⟩
     have n8_ : Aside0 (gb190 ≠ gb182) := ⟨h8_⟩
     have n9_ : Aside0 (gb183 ≠ gb190) := ⟨h9_⟩
     have n10_ : Aside0 (gb190 ≠ gb183) := ⟨h10_⟩
     have n11_ : Aside0 (Below w.heap.size w w17) := ⟨h11_⟩
     clear BK182
     clear BK183
     clear HB
     clear h0_ h1_ h2_ h3_ h4_ h5_ h6_ h7_ h8_ h9_ h10_ h11_
     have HO186 := n0_
     have HO189 := n1_
     have BK182 := n2_
     have BK183 := n3_
     have BK190 := n4_
     have GW190 := n5_
     have GE190 := n6_
     have NB182_190 := n7_
     have NB190_182 := n8_
     have NB183_190 := n9_
     have NB190_183 := n10_
     have HB := n11_
     clear n0_ n1_ n2_ n3_ n4_ n5_ n6_ n7_ n8_ n9_ n10_ n11_
     have hHeld : w17.cell? ⟨gb182, 0, none⟩ = some (.slice A0_0 l0_0.length c0_0) ∧ w17.cell? ⟨gb182, 1, none⟩ = some (.slice A0_1 l0_1.length c0_1) ∧ w17.cell? ⟨gb182, 2, none⟩ = some (.int .i64 a0_2) := hS_
     obtain ⟨Ao18, co18, eo18⟩ := Kd.R_slice HO189.out
     (first | subst eo18 | (injection eo18 with f1_ f2_ f3_; have f4_ := f1_.symm; have f5_ := f3_.symm; clear f1_ f2_ f3_; subst f4_; subst f5_))
     obtain ⟨Ao19, co19, eo19⟩ := Kd.R_slice HO186.out
     (first | subst eo19 | (injection eo19 with f1_ f2_ f3_; have f4_ := f1_.symm; have f5_ := f3_.symm; clear f1_ f2_ f3_; subst f4_; subst f5_))
     refine norm_ (a' := ?_) ?_ ?_
     rotate_left
     ·
      simp only [putAll, Act.put, List.setIfInBounds_toArray, List.set_cons_zero, List.set_cons_succ]
      rfl
     refine one_ (i := 10) (N := none) #[true, true, true, true, true, true, true, true, true, true, true] rfl rfl (one_of HT_.out (by kernel_rfl)) (by decide) (fun K hK => ?_)
     have hs20 : w17.cell? ⟨gb190, 0, none⟩ = some (.slice none 0 0) := (blk_cell BK190.out 0).trans rfl
     have hfs20 := blk_frozen BK190.out 0
     have hns20_0 := NB182_190.out
     have hns20_1 := NB183_190.out
     have hms20_0 := NB190_182.out
     have hms20_1 := NB190_183.out
     have hs21 : w17.cell? ⟨gb190, 1, none⟩ = some (.slice none 0 0) := (blk_cell BK190.out 1).trans rfl
     have hfs21 := blk_frozen BK190.out 1
     have hns21_0 := NB182_190.out
     have hns21_1 := NB183_190.out
     have hms21_0 := NB190_182.out
     have hms21_1 := NB190_183.out
     have hs22 : w17.cell? ⟨gb190, 2, none⟩ = some (.int .i64 0) := (blk_cell BK190.out 2).trans rfl
     have hfs22 := blk_frozen BK190.out 2
     have hns22_0 := NB182_190.out
     have hns22_1 := NB183_190.out
     have hms22_0 := NB190_182.out
     have hms22_1 := NB190_183.out
     have hs23 : w17.cell? ⟨gb190, 3, none⟩ = some (.int .i64 0) := (blk_cell BK190.out 3).trans rfl
     have hfs23 := blk_frozen BK190.out 3
     have hns23_0 := NB182_190.out
     have hns23_1 := NB183_190.out
     have hms23_0 := NB190_182.out
     have hms23_1 := NB190_183.out
     have hs24 : w17.cell? ⟨gb190, 4, none⟩ = some (.int .i64 0) := (blk_cell BK190.out 4).trans rfl
     have hfs24 := blk_frozen BK190.out 4
     have hns24_0 := NB182_190.out
     have hns24_1 := NB183_190.out
     have hms24_0 := NB190_182.out
     have hms24_1 := NB190_183.out
     refine skip_ (w1 := ?_) (by rfl) rfl ?_ ?_
     rotate_left
     ·
      go_simp
      rfl
     refine hK.out _ _ ⟨((cell_far (p := ⟨gb190, _, none⟩) NB182_190.out _).trans (((cell_far (p := ⟨gb190, _, none⟩) NB182_190.out _).trans (((cell_far (p := ⟨gb190, _, none⟩) NB182_190.out _).trans (((cell_far (p := ⟨gb190, _, none⟩) NB182_190.out _).trans (((cell_far (p := ⟨gb190, _, none⟩) NB182_190.out _).trans (hHeld.1)))))))))), ((cell_far (p := ⟨gb190, _, none⟩) NB182_190.out _).trans (((cell_far (p := ⟨gb190, _, none⟩) NB182_190.out _).trans (((cell_far (p := ⟨gb190, _, none⟩) NB182_190.out _).trans (((cell_far (p := ⟨gb190, _, none⟩) NB182_190.out _).trans (((cell_far (p := ⟨gb190, _, none⟩) NB182_190.out _).trans (hHeld.2.1)))))))))), ((cell_far (p := ⟨gb190, _, none⟩) NB182_190.out _).trans (((cell_far (p := ⟨gb190, _, none⟩) NB182_190.out _).trans (((cell_far (p := ⟨gb190, _, none⟩) NB182_190.out _).trans (((cell_far (p := ⟨gb190, _, none⟩) NB182_190.out _).trans (((cell_far (p := ⟨gb190, _, none⟩) NB182_190.out _).trans (hHeld.2.2))))))))))⟩ (fun hHeld => ?_)
     clear hK K
     refine done_ (done_of HT_.out (by kernel_rfl)) ?_
     try go_wp2
     go_loopg [7] k (fun kq v7 w' => ∃ (x7_1 : Int) (x191000_1 : List Int) (x191001_1 : List Int) (u191000 : Value) (u191001 : Value), v7 = .int .i64 x7_1 ∧ Aside0 (spliceref12_Plan.l0 kq l1 x7_1 l0_0 l0_1 a0_2 x191000_1 x191001_1 0 0 0 = some (r1, r2, r3, r4, r5, r6)) ∧ Aside0 (kq ≤ k) ∧ Aside0 (Kd.R (Kd.int .i64) 3 w' w.heap.size (fun k_ => some k_ ≠ (u191001 : Value).ownBlock) u191000 x191000_1) ∧ Aside0 (Kd.R (Kd.int .i64) 3 w' w.heap.size (fun k_ => some k_ ≠ (u191000 : Value).ownBlock) u191001 x191001_1) ∧ Aside0 (w'.heap[gb182]? = some (.cells #[(.slice A0_0 l0_0.length c0_0), (.slice A0_1 l0_1.length c0_1), .int .i64 a0_2] 25 (0, 0))) ∧ Aside0 (w'.heap[gb183]? = some (.cells #[(.slice none 0 0), (.slice none 0 0), .int .i64 0, .int .i64 0, .int .i64 0] 30 (0, 0))) ∧ Aside0 (w'.heap[gb190]? = some (.cells #[u191000, u191001, .int .i64 0, .int .i64 0, .int .i64 0] 30 (0, 0))) ∧ Aside0 (Below w.heap.size w w'))
     case atStart => exact ⟨(0), (y184), (y187), (.slice Ao19 y184.length co19), (.slice Ao18 y187.length co18), (by first | rfl | (simp; done) | (simp [*]; done)), H', ⟨Nat.le_refl _⟩, ⟨by (with_reducible repeat (first | apply Kd.R_alloc | apply Kd.R_drewN | apply Kd.R_drew)); exact Kd.R_mono (Kd.R_far (p := ⟨gb190, 4, none⟩) (Kd.R_far (p := ⟨gb190, 3, none⟩) (Kd.R_far (p := ⟨gb190, 2, none⟩) (Kd.R_far (p := ⟨gb190, 1, none⟩) (Kd.R_far (p := ⟨gb190, 0, none⟩) (Kd.R_types HO186.out BK190.out (by decide)) (fun _ hk => hk.2) (.slice Ao19 y184.length co19)) (fun _ hk => hk.2) (.slice Ao18 y187.length co18)) (fun _ hk => hk.2) (.int .i64 0)) (fun _ hk => hk.2) (.int .i64 0)) (fun _ hk => hk.2) (.int .i64 0)) (fun _ hk => hk.1)⟩, ⟨by (with_reducible repeat (first | apply Kd.R_alloc | apply Kd.R_drewN | apply Kd.R_drew)); exact Kd.R_mono (Kd.R_far (p := ⟨gb190, 4, none⟩) (Kd.R_far (p := ⟨gb190, 3, none⟩) (Kd.R_far (p := ⟨gb190, 2, none⟩) (Kd.R_far (p := ⟨gb190, 1, none⟩) (Kd.R_far (p := ⟨gb190, 0, none⟩) (Kd.R_types HO189.out BK190.out (by decide)) (fun _ hk => hk.2) (.slice Ao19 y184.length co19)) (fun _ hk => hk.2) (.slice Ao18 y187.length co18)) (fun _ hk => hk.2) (.int .i64 0)) (fun _ hk => hk.2) (.int .i64 0)) (fun _ hk => hk.2) (.int .i64 0)) (fun _ hk => hk.1)⟩, ⟨by (with_reducible repeat (first | refine blk_drewN ?_ _ | refine blk_drew ?_ | refine blk_alloc ?_ _)); refine blk_far ?_ NB182_190.out _; (with_reducible repeat (first | refine blk_drewN ?_ _ | refine blk_drew ?_ | refine blk_alloc ?_ _)); refine blk_far ?_ NB182_190.out _; (with_reducible repeat (first | refine blk_drewN ?_ _ | refine blk_drew ?_ | refine blk_alloc ?_ _)); refine blk_far ?_ NB182_190.out _; (with_reducible repeat (first | refine blk_drewN ?_ _ | refine blk_drew ?_ | refine blk_alloc ?_ _)); refine blk_far ?_ NB182_190.out _; (with_reducible repeat (first | refine blk_drewN ?_ _ | refine blk_drew ?_ | refine blk_alloc ?_ _)); refine blk_far ?_ NB182_190.out _; (with_reducible repeat (first | refine blk_drewN ?_ _ | refine blk_drew ?_ | refine blk_alloc ?_ _)); exact BK182.out⟩, ⟨by (with_reducible repeat (first | refine blk_drewN ?_ _ | refine blk_drew ?_ | refine blk_alloc ?_ _)); refine blk_far ?_ NB183_190.out _; (with_reducible repeat (first | refine blk_drewN ?_ _ | refine blk_drew ?_ | refine blk_alloc ?_ _)); refine blk_far ?_ NB183_190.out _; (with_reducible repeat (first | refine blk_drewN ?_ _ | refine blk_drew ?_ | refine blk_alloc ?_ _)); refine blk_far ?_ NB183_190.out _; (with_reducible repeat (first | refine blk_drewN ?_ _ | refine blk_drew ?_ | refine blk_alloc ?_ _)); refine blk_far ?_ NB183_190.out _; (with_reducible repeat (first | refine blk_drewN ?_ _ | refine blk_drew ?_ | refine blk_alloc ?_ _)); refine blk_far ?_ NB183_190.out _; (with_reducible repeat (first | refine blk_drewN ?_ _ | refine blk_drew ?_ | refine blk_alloc ?_ _)); exact BK183.out⟩, ⟨by (with_reducible repeat (first | refine blk_drewN ?_ _ | refine blk_drew ?_ | refine blk_alloc ?_ _)); refine blk_put (cs := #[.slice Ao19 y184.length co19, .slice Ao18 y187.length co18, .int .i64 0, .int .i64 0, .int .i64 0]) ?_ 4 _ rfl; (with_reducible repeat (first | refine blk_drewN ?_ _ | refine blk_drew ?_ | refine blk_alloc ?_ _)); refine blk_put (cs := #[.slice Ao19 y184.length co19, .slice Ao18 y187.length co18, .int .i64 0, .int .i64 0, .int .i64 0]) ?_ 3 _ rfl; (with_reducible repeat (first | refine blk_drewN ?_ _ | refine blk_drew ?_ | refine blk_alloc ?_ _)); refine blk_put (cs := #[.slice Ao19 y184.length co19, .slice Ao18 y187.length co18, .int .i64 0, .int .i64 0, .int .i64 0]) ?_ 2 _ rfl; (with_reducible repeat (first | refine blk_drewN ?_ _ | refine blk_drew ?_ | refine blk_alloc ?_ _)); refine blk_put (cs := #[.slice Ao19 y184.length co19, .slice none 0 0, .int .i64 0, .int .i64 0, .int .i64 0]) ?_ 1 _ rfl; (with_reducible repeat (first | refine blk_drewN ?_ _ | refine blk_drew ?_ | refine blk_alloc ?_ _)); refine blk_put (cs := #[.slice none 0 0, .slice none 0 0, .int .i64 0, .int .i64 0, .int .i64 0]) ?_ 0 _ rfl; (with_reducible repeat (first | refine blk_drewN ?_ _ | refine blk_drew ?_ | refine blk_alloc ?_ _)); exact BK190.out⟩, ⟨by repeat (first | (with_reducible first | exact HB.out | apply below_alloc | apply pw_below_drewN | apply below_drew1 | refine below_set ?_ GE182.out | refine below_set ?_ GE183.out | refine below_set ?_ GE190.out) | exact HB.out)⟩⟩
     case round =>
      clear H'
      (try clear p2)
      obtain ⟨x7_1, x191000_1, x191001_1, u191000, u191001, rfl, HA, HK1, HO_191000, HO_191001, BK182, BK183, BK190, HB⟩ := hrel
      cases gk with
      | zero => exact absurd HA.out (by simp [spliceref12_Plan.l0])
      | succ k1 =>
       have H := HA.out
       clear HA
       simp only [spliceref12_Plan.l0] at H
       by_cases c25 : x7_1 < (l0_0.length : Int)
       ·
        rw [if_pos c25] at H
        have c25b0 : decide (x7_1 < (l0_0.length : Int)) = true := decide_eq_true c25
        clear c25
        by_cases c26 : 0 ≤ x7_1
        ·
         rw [if_pos c26] at H
         have c26b0 : decide (0 ≤ x7_1) = true := decide_eq_true c26
         clear c26
         by_cases c27 : x7_1 < (x191000_1.length : Int)
         ·
          rw [if_pos c27] at H
          have c27b0 : decide (x7_1 < (x191000_1.length : Int)) = true := decide_eq_true c27
          clear c27
          obtain ⟨y191, hy191⟩ : ∃ y_ : List Int, y_ = (x191000_1.set (x7_1 : Int).toNat (-1)) := ⟨_, rfl⟩
          replace H : (spliceref12_Plan.l0 k1 l1 (wrap64 (x7_1 + 1)) l0_0 l0_1 a0_2 y191 x191001_1 0 0 0) = some (r1, r2, r3, r4, r5, r6) := by first | (rw [hy191]; with_reducible exact H) | (have H2_ := (Option.bind_some _ _).symm.trans H; rw [hy191]; with_reducible exact H2_) | (have H2_ := (Option.bind_some _ _).symm.trans H; with_reducible exact H2_) | with_reducible exact H | (rw [hy191]; exact H) | exact H
          have Ny191 := Aside0.mk hy191
          clear hy191
          have H' := Aside0.mk H
          clear H
          have hnb29 := NB182_183.out
          have hnc29 := NB183_182.out
          have hnb30 := NB182_190.out
          have hnc30 := NB190_182.out
          have hcz31_0 : wr.cell? ⟨gb182, 0, none⟩ = some (.slice A0_0 l0_0.length c0_0) := (blk_cell BK182.out 0).trans rfl
          have hcz31_1 : wr.cell? ⟨gb182, 1, none⟩ = some (.slice A0_1 l0_1.length c0_1) := (blk_cell BK182.out 1).trans rfl
          have hcz31_2 : wr.cell? ⟨gb182, 2, none⟩ = some (.int .i64 a0_2) := (blk_cell BK182.out 2).trans rfl
          have hfz31_0 := blk_frozen BK182.out 0
          have hfz31_1 := blk_frozen BK182.out 1
          have hfz31_2 := blk_frozen BK182.out 2
          have hnb32 := NB190_183.out
          have hnc32 := NB183_190.out
          have hcz33_0 : wr.cell? ⟨gb190, 0, none⟩ = some (u191000) := (blk_cell BK190.out 0).trans rfl
          have hcz33_1 : wr.cell? ⟨gb190, 1, none⟩ = some (u191001) := (blk_cell BK190.out 1).trans rfl
          have hcz33_2 : wr.cell? ⟨gb190, 2, none⟩ = some (.int .i64 0) := (blk_cell BK190.out 2).trans rfl
          have hcz33_3 : wr.cell? ⟨gb190, 3, none⟩ = some (.int .i64 0) := (blk_cell BK190.out 3).trans rfl
          have hcz33_4 : wr.cell? ⟨gb190, 4, none⟩ = some (.int .i64 0) := (blk_cell BK190.out 4).trans rfl
          have hfz33_0 := blk_frozen BK190.out 0
          have hfz33_1 := blk_frozen BK190.out 1
          have hfz33_2 := blk_frozen BK190.out 2
          have hfz33_3 := blk_frozen BK190.out 3
          have hfz33_4 := blk_frozen BK190.out 4
          have p28 : 0 ≤ (x7_1 : Int) := of_decide_eq_true (by first | (with_reducible assumption) | assumption)
          have q28 : (x7_1 : Int) < ((x191000_1.length : Int) : Int) := of_decide_eq_true (by first | (with_reducible assumption) | assumption)
          obtain ⟨go28, co28, eo28, gb28, gl28, cl28, HG28⟩ := Kd.R_form HO_191000.out (by omega)
          (first | cases eo28 | (injection eo28 with ea_ en_ ec_; (first | subst ea_ | (injection ea_ with ea_; subst ea_)); subst ec_; clear en_))
          have GB28 := Aside0.mk gb28
          have GG28 := Aside0.mk HG28
          clear gb28 gl28 HG28
          obtain ⟨hx28_0, hf28_0⟩ := Kd.R_celln 0 HO_191000.out (x7_1 : Int) p28 q28
          replace p28 := eq_true p28
          replace q28 := eq_true q28
          have HP34 := Kd.R_putg HO_191000.out (x7_1 : Int) (-1)
          go_wp2_with (first | ((with_reducible refine gate_store (t := 3) (p := 31) rfl ?_); refine store_event (t := 3) (p := 31) (v := ?vo_w35) (w1 := (wr.setCell ⟨go28, (x7_1 : Int).toNat, none⟩ (.int .i64 (-1)))) ?hg ?ho ?hn ?hr ?_; (case ho => rfl); (case hg => rfl); (case hn => rfl); (case hr => first | (go_simp; done) | (go_simp; rfl)); intro w35 hw; have hg : wr.grownBy w35 (some go28) := (by rw [hw]; exact HP34.2); have hp_ : Kd.R (Kd.int .i64) 3 w35 w.heap.size (fun k_ => some k_ ≠ (u191001 : Value).ownBlock) (.slice (some ⟨go28, 0, none⟩) x191000_1.length co28) y191 := (by rw [hw, Ny191.out]; exact HP34.1); clear HP34; have n0_ := Aside0.mk (hp_); have n1_ := Aside0.mk (Kd.R_after (v := (.slice (some ⟨go28, 0, none⟩) x191000_1.length co28)) (v1 := (.slice (some ⟨go28, 0, none⟩) x191000_1.length co28)) (ok := (fun _ => True)) (by (with_reducible repeat (first | apply Kd.R_alloc | apply Kd.R_drewN | apply Kd.R_drew)); exact Kd.R_mono HO_191001.out (fun _ hk => ⟨trivial, hk⟩)) hg (.inl rfl)); have n2_ := Aside0.mk (blk_grown (g := gb182) (o := .cells #[.slice A0_0 l0_0.length c0_0, .slice A0_1 l0_1.length c0_1, .int .i64 a0_2] 25 (0, 0)) (by (with_reducible repeat (first | refine blk_drewN ?_ _ | refine blk_drew ?_ | refine blk_alloc ?_ _)); exact BK182.out) hg (Kd.R_ne HO_191000.out BK182.out (by decide))); have n3_ := Aside0.mk (blk_grown (g := gb183) (o := .cells #[.slice none 0 0, .slice none 0 0, .int .i64 0, .int .i64 0, .int .i64 0] 30 (0, 0)) (by (with_reducible repeat (first | refine blk_drewN ?_ _ | refine blk_drew ?_ | refine blk_alloc ?_ _)); exact BK183.out) hg (Kd.R_ne HO_191000.out BK183.out (by decide))); have n4_ := Aside0.mk (blk_grown (g := gb190) (o := .cells #[.slice (some ⟨go28, 0, none⟩) x191000_1.length co28, u191001, .int .i64 0, .int .i64 0, .int .i64 0] 30 (0, 0)) (by (with_reducible repeat (first | refine blk_drewN ?_ _ | refine blk_drew ?_ | refine blk_alloc ?_ _)); exact BK190.out) hg (Kd.R_ne HO_191000.out BK190.out (by decide))); have n5_ := Aside0.mk ((by rw [hw]; exact below_set (HB.out) GB28.out : Below w.heap.size w w35)); clear HO_191000; clear HO_191001; clear BK182; clear BK183; clear BK190; clear HB; have HO_191000 := n0_; have HO_191001 := n1_; have BK182 := n2_; have BK183 := n3_; have BK190 := n4_; have HB := n5_; clear n0_ n1_ n2_ n3_ n4_ n5_; clear hg hw hp_))
          go_roundg k1
          case measure => have := HK1.out; omega
          case rel => exact ⟨(wrap64 (x7_1 + 1)), (y191), (x191001_1), (.slice (some ⟨go28, 0, none⟩) x191000_1.length co28), (u191001), (by first | rfl | (simp; done) | (simp [*]; done)), H', ⟨by have := HK1.out; omega⟩, ⟨by (with_reducible repeat (first | apply Kd.R_alloc | apply Kd.R_drewN | apply Kd.R_drew)); exact HO_191000.out⟩, ⟨by (with_reducible repeat (first | apply Kd.R_alloc | apply Kd.R_drewN | apply Kd.R_drew)); exact Kd.R_mono HO_191001.out (fun _ hk => hk.2)⟩, ⟨by (with_reducible repeat (first | refine blk_drewN ?_ _ | refine blk_drew ?_ | refine blk_alloc ?_ _)); exact BK182.out⟩, ⟨by (with_reducible repeat (first | refine blk_drewN ?_ _ | refine blk_drew ?_ | refine blk_alloc ?_ _)); exact BK183.out⟩, ⟨by (with_reducible repeat (first | refine blk_drewN ?_ _ | refine blk_drew ?_ | refine blk_alloc ?_ _)); exact BK190.out⟩, ⟨by repeat (first | (with_reducible first | exact HB.out | apply below_alloc | apply pw_below_drewN | apply below_drew1 | refine below_set ?_ GE182.out | refine below_set ?_ GE183.out | refine below_set ?_ GE190.out) | exact HB.out)⟩⟩
         ·
          rw [if_neg c27] at H
          exact absurd H (by simp)
        ·
         rw [if_neg c26] at H
         exact absurd H (by simp)
       ·
        rw [if_neg c25] at H
        have c25b0 : decide (x7_1 < (l0_0.length : Int)) = false := decide_eq_false c25
        clear c25
        have H' := Aside0.mk H
        clear H
        have hnb36 := NB182_183.out
        have hnc36 := NB183_182.out
        have hnb37 := NB182_190.out
        have hnc37 := NB190_182.out
        have hcz38_0 : wr.cell? ⟨gb182, 0, none⟩ = some (.slice A0_0 l0_0.length c0_0) := (blk_cell BK182.out 0).trans rfl
        have hcz38_1 : wr.cell? ⟨gb182, 1, none⟩ = some (.slice A0_1 l0_1.length c0_1) := (blk_cell BK182.out 1).trans rfl
        have hcz38_2 : wr.cell? ⟨gb182, 2, none⟩ = some (.int .i64 a0_2) := (blk_cell BK182.out 2).trans rfl
        have hfz38_0 := blk_frozen BK182.out 0
        have hfz38_1 := blk_frozen BK182.out 1
        have hfz38_2 := blk_frozen BK182.out 2
        go_wp2
        go_loopg [8] k1 (fun kq v8 w' => ∃ (x8_2 : Int) (x184002_2 : Int) (x184003_2 : Int) (x184004_2 : Int) (x191000_2 : List Int) (x191001_2 : List Int) (x191002_2 : Int) (u191000 : Value) (u191001 : Value), v8 = .int .i64 x8_2 ∧ Aside0 (spliceref12_Plan.l1 kq l1 x8_2 l0_0 l0_1 a0_2 x191000_2 x191001_2 x191002_2 0 0 = some (r1, r2, r3, r4, r5, r6)) ∧ Aside0 (kq ≤ k1) ∧ Aside0 (Kd.R (Kd.int .i64) 3 w' w.heap.size (fun k_ => some k_ ≠ (u191001 : Value).ownBlock) u191000 x191000_2) ∧ Aside0 (Kd.R (Kd.int .i64) 3 w' w.heap.size (fun k_ => some k_ ≠ (u191000 : Value).ownBlock) u191001 x191001_2) ∧ Aside0 (w'.heap[gb182]? = some (.cells #[(.slice A0_0 l0_0.length c0_0), (.slice A0_1 l0_1.length c0_1), .int .i64 a0_2] 25 (0, 0))) ∧ Aside0 (w'.heap[gb183]? = some (.cells #[(.slice none 0 0), (.slice none 0 0), .int .i64 x184002_2, .int .i64 x184003_2, .int .i64 x184004_2] 30 (0, 0))) ∧ Aside0 (w'.heap[gb190]? = some (.cells #[u191000, u191001, .int .i64 x191002_2, .int .i64 0, .int .i64 0] 30 (0, 0))) ∧ Aside0 (Below w.heap.size w w'))
        case atStart => exact ⟨(0), (0), (0), (0), (x191000_1), (x191001_1), (0), (u191000), (u191001), (by first | rfl | (simp; done) | (simp [*]; done)), H', ⟨Nat.le_refl _⟩, ⟨by (with_reducible repeat (first | apply Kd.R_alloc | apply Kd.R_drewN | apply Kd.R_drew)); exact HO_191000.out⟩, ⟨by (with_reducible repeat (first | apply Kd.R_alloc | apply Kd.R_drewN | apply Kd.R_drew)); exact HO_191001.out⟩, ⟨by (with_reducible repeat (first | refine blk_drewN ?_ _ | refine blk_drew ?_ | refine blk_alloc ?_ _)); exact BK182.out⟩, ⟨by (with_reducible repeat (first | refine blk_drewN ?_ _ | refine blk_drew ?_ | refine blk_alloc ?_ _)); exact BK183.out⟩, ⟨by (with_reducible repeat (first | refine blk_drewN ?_ _ | refine blk_drew ?_ | refine blk_alloc ?_ _)); exact BK190.out⟩, ⟨by repeat (first | (with_reducible first | exact HB.out | apply below_alloc | apply pw_below_drewN | apply below_drew1 | refine below_set ?_ GE182.out | refine below_set ?_ GE183.out | refine below_set ?_ GE190.out) | exact HB.out)⟩⟩
        case round =>
         clear H'
         (try clear c2); (try clear p2); (try clear q2); (try clear hx2); (try clear hf2); (try clear c3); (try clear p6); (try clear c25); (try clear c25b0); (try clear c26); (try clear c26b0); (try clear c27); (try clear c27b0); (try clear p28); (try clear q28); (try clear hx28); (try clear hf28); (try clear c29); (try clear c30); (try clear c32); (try clear c36); (try clear c37); (try clear hcz31_0); (try clear hcz31_1); (try clear hcz31_2); (try clear hcz33_0); (try clear hcz33_1); (try clear hcz33_2); (try clear hcz33_3); (try clear hcz33_4); (try clear hcz38_0); (try clear hcz38_1); (try clear hcz38_2); (try clear hfz31_0); (try clear hfz31_1); (try clear hfz31_2); (try clear hfz33_0); (try clear hfz33_1); (try clear hfz33_2); (try clear hfz33_3); (try clear hfz33_4); (try clear hfz38_0); (try clear hfz38_1); (try clear hfz38_2); (try clear hx28_0); (try clear p2); (try clear p28); (try clear q28)
         obtain ⟨x8_2, x184002_2, x184003_2, x184004_2, x191000_2, x191001_2, x191002_2, u191000, u191001, rfl, HA, HK2, HO_191000, HO_191001, BK182, BK183, BK190, HB⟩ := hrel
         cases gk with
         | zero => exact absurd HA.out (by simp [spliceref12_Plan.l1])
         | succ k2 =>
          have H := HA.out
          clear HA
          simp only [spliceref12_Plan.l1] at H
          by_cases c39 : x8_2 < (l1.length : Int)
          ·
           rw [if_pos c39] at H
           have c39b0 : decide (x8_2 < (l1.length : Int)) = true := decide_eq_true c39
           clear c39
           by_cases c40 : 0 ≤ x8_2
           ·
            rw [if_pos c40] at H
            have c40b0 : decide (0 ≤ x8_2) = true := decide_eq_true c40
            clear c40
            by_cases c41 : (rd l1 x8_2) < 0
            ·
             rw [if_pos c41] at H
             have c41b0 : decide ((rd l1 x8_2) < 0) = true := decide_eq_true c41
             clear c41
             simp only [Option.some.injEq, Prod.mk.injEq] at H
             obtain ⟨rfl, rfl, rfl, rfl, rfl, rfl⟩ := H
             have p192 : 0 ≤ (x8_2 : Int) := of_decide_eq_true (by first | (with_reducible assumption) | assumption)
             have q192 : x8_2 < (l1.length : Int) := of_decide_eq_true (by first | (with_reducible assumption) | assumption)
             obtain ⟨ad192, e192, hx192_0⟩ := Kd.at_int HR1.out x8_2 p192 q192
             cases e192
             replace hx192_0 := (HB.out.cell (World.block_lt_of_cell? w _ hx192_0)).trans hx192_0
             replace p192 := eq_true p192
             replace q192 := eq_true q192
             have hnb42 := NB183_182.out
             have hnc42 := NB182_183.out
             have hnb43 := NB183_190.out
             have hnc43 := NB190_183.out
             have hcz44_0 : wr.cell? ⟨gb183, 0, none⟩ = some (.slice none 0 0) := (blk_cell BK183.out 0).trans rfl
             have hcz44_1 : wr.cell? ⟨gb183, 1, none⟩ = some (.slice none 0 0) := (blk_cell BK183.out 1).trans rfl
             have hcz44_2 : wr.cell? ⟨gb183, 2, none⟩ = some (.int .i64 x184002_2) := (blk_cell BK183.out 2).trans rfl
             have hcz44_3 : wr.cell? ⟨gb183, 3, none⟩ = some (.int .i64 x184003_2) := (blk_cell BK183.out 3).trans rfl
             have hcz44_4 : wr.cell? ⟨gb183, 4, none⟩ = some (.int .i64 x184004_2) := (blk_cell BK183.out 4).trans rfl
             have hfz44_0 := blk_frozen BK183.out 0
             have hfz44_1 := blk_frozen BK183.out 1
             have hfz44_2 := blk_frozen BK183.out 2
             have hfz44_3 := blk_frozen BK183.out 3
             have hfz44_4 := blk_frozen BK183.out 4
             go_wp2
             refine bodyPost_ret (results_ct rfl _ _ gb183 30 #[.slice none 0 0, .slice none 0 0, .int .i64 0, .int .i64 0, .int .i64 0] (0, 0) _ rfl (by (with_reducible repeat (first | refine blk_drewN ?_ _ | refine blk_drew ?_ | refine blk_alloc ?_ _)); refine blk_put (cs := #[.slice none 0 0, .slice none 0 0, .int .i64 0, .int .i64 0, .int .i64 x184004_2]) ?_ 4 _ rfl; (with_reducible repeat (first | refine blk_drewN ?_ _ | refine blk_drew ?_ | refine blk_alloc ?_ _)); refine blk_put (cs := #[.slice none 0 0, .slice none 0 0, .int .i64 0, .int .i64 x184003_2, .int .i64 x184004_2]) ?_ 3 _ rfl; (with_reducible repeat (first | refine blk_drewN ?_ _ | refine blk_drew ?_ | refine blk_alloc ?_ _)); refine blk_put (cs := #[.slice none 0 0, .slice none 0 0, .int .i64 x184002_2, .int .i64 x184003_2, .int .i64 x184004_2]) ?_ 2 _ rfl; (with_reducible repeat (first | refine blk_drewN ?_ _ | refine blk_drew ?_ | refine blk_alloc ?_ _)); refine blk_put (cs := #[.slice none 0 0, .slice none 0 0, .int .i64 x184002_2, .int .i64 x184003_2, .int .i64 x184004_2]) ?_ 1 _ rfl; (with_reducible repeat (first | refine blk_drewN ?_ _ | refine blk_drew ?_ | refine blk_alloc ?_ _)); refine blk_put (cs := #[.slice none 0 0, .slice none 0 0, .int .i64 x184002_2, .int .i64 x184003_2, .int .i64 x184004_2]) ?_ 0 _ rfl; (with_reducible repeat (first | refine blk_drewN ?_ _ | refine blk_drew ?_ | refine blk_alloc ?_ _)); exact BK183.out) Try.underlying30 rfl (by kernel_rfl)) rfl ?_
             exact ⟨_, _, by first | rfl | (simp [errW_none, errW_some] <;> rfl) | (simp [*, errW_none, errW_some] <;> rfl), by first | exact Kd.R_nil _ _ _ _ _ | exact Kd.N_nil _ _ _ _ _ | exact Kd.V_nil _ _ _ _ _ | exact Kd.Q_nil _ _ _ _ _ | exact Kd.S_nil _ _ _ _ _, by first | exact Kd.R_nil _ _ _ _ _ | exact Kd.N_nil _ _ _ _ _ | exact Kd.V_nil _ _ _ _ _ | exact Kd.Q_nil _ _ _ _ _ | exact Kd.S_nil _ _ _ _ _, by repeat (first | (with_reducible first | exact HB.out | apply below_alloc | apply pw_below_drewN | apply below_drew1 | refine below_set ?_ GE182.out | refine below_set ?_ GE183.out | refine below_set ?_ GE190.out) | exact HB.out)⟩
            ·
             rw [if_neg c41] at H
             have c41b0 : decide ((rd l1 x8_2) < 0) = false := decide_eq_false c41
             clear c41
             by_cases c45 : (rd l1 x8_2) ≥ (l0_0.length : Int)
             ·
              rw [if_pos c45] at H
              have c45b0 : decide ((l0_0.length : Int) ≤ (rd l1 x8_2)) = true := decide_eq_true c45
              clear c45
              simp only [Option.some.injEq, Prod.mk.injEq] at H
              obtain ⟨rfl, rfl, rfl, rfl, rfl, rfl⟩ := H
              have p192 : 0 ≤ (x8_2 : Int) := of_decide_eq_true (by first | (with_reducible assumption) | assumption)
              have q192 : x8_2 < (l1.length : Int) := of_decide_eq_true (by first | (with_reducible assumption) | assumption)
              obtain ⟨ad192, e192, hx192_0⟩ := Kd.at_int HR1.out x8_2 p192 q192
              cases e192
              replace hx192_0 := (HB.out.cell (World.block_lt_of_cell? w _ hx192_0)).trans hx192_0
              replace p192 := eq_true p192
              replace q192 := eq_true q192
              have hnb46 := NB182_183.out
              have hnc46 := NB183_182.out
              have hnb47 := NB182_190.out
              have hnc47 := NB190_182.out
              have hcz48_0 : wr.cell? ⟨gb182, 0, none⟩ = some (.slice A0_0 l0_0.length c0_0) := (blk_cell BK182.out 0).trans rfl
              have hcz48_1 : wr.cell? ⟨gb182, 1, none⟩ = some (.slice A0_1 l0_1.length c0_1) := (blk_cell BK182.out 1).trans rfl
              have hcz48_2 : wr.cell? ⟨gb182, 2, none⟩ = some (.int .i64 a0_2) := (blk_cell BK182.out 2).trans rfl
              have hfz48_0 := blk_frozen BK182.out 0
              have hfz48_1 := blk_frozen BK182.out 1
              have hfz48_2 := blk_frozen BK182.out 2
              have hnb49 := NB183_190.out
              have hnc49 := NB190_183.out
              have hcz50_0 : wr.cell? ⟨gb183, 0, none⟩ = some (.slice none 0 0) := (blk_cell BK183.out 0).trans rfl
              have hcz50_1 : wr.cell? ⟨gb183, 1, none⟩ = some (.slice none 0 0) := (blk_cell BK183.out 1).trans rfl
              have hcz50_2 : wr.cell? ⟨gb183, 2, none⟩ = some (.int .i64 x184002_2) := (blk_cell BK183.out 2).trans rfl
              have hcz50_3 : wr.cell? ⟨gb183, 3, none⟩ = some (.int .i64 x184003_2) := (blk_cell BK183.out 3).trans rfl
              have hcz50_4 : wr.cell? ⟨gb183, 4, none⟩ = some (.int .i64 x184004_2) := (blk_cell BK183.out 4).trans rfl
              have hfz50_0 := blk_frozen BK183.out 0
              have hfz50_1 := blk_frozen BK183.out 1
              have hfz50_2 := blk_frozen BK183.out 2
              have hfz50_3 := blk_frozen BK183.out 3
              have hfz50_4 := blk_frozen BK183.out 4
              go_wp2
              refine bodyPost_ret (results_ct rfl _ _ gb183 30 #[.slice none 0 0, .slice none 0 0, .int .i64 0, .int .i64 0, .int .i64 0] (0, 0) _ rfl (by (with_reducible repeat (first | refine blk_drewN ?_ _ | refine blk_drew ?_ | refine blk_alloc ?_ _)); refine blk_put (cs := #[.slice none 0 0, .slice none 0 0, .int .i64 0, .int .i64 0, .int .i64 x184004_2]) ?_ 4 _ rfl; (with_reducible repeat (first | refine blk_drewN ?_ _ | refine blk_drew ?_ | refine blk_alloc ?_ _)); refine blk_put (cs := #[.slice none 0 0, .slice none 0 0, .int .i64 0, .int .i64 x184003_2, .int .i64 x184004_2]) ?_ 3 _ rfl; (with_reducible repeat (first | refine blk_drewN ?_ _ | refine blk_drew ?_ | refine blk_alloc ?_ _)); refine blk_put (cs := #[.slice none 0 0, .slice none 0 0, .int .i64 x184002_2, .int .i64 x184003_2, .int .i64 x184004_2]) ?_ 2 _ rfl; (with_reducible repeat (first | refine blk_drewN ?_ _ | refine blk_drew ?_ | refine blk_alloc ?_ _)); refine blk_put (cs := #[.slice none 0 0, .slice none 0 0, .int .i64 x184002_2, .int .i64 x184003_2, .int .i64 x184004_2]) ?_ 1 _ rfl; (with_reducible repeat (first | refine blk_drewN ?_ _ | refine blk_drew ?_ | refine blk_alloc ?_ _)); refine blk_put (cs := #[.slice none 0 0, .slice none 0 0, .int .i64 x184002_2, .int .i64 x184003_2, .int .i64 x184004_2]) ?_ 0 _ rfl; (with_reducible repeat (first | refine blk_drewN ?_ _ | refine blk_drew ?_ | refine blk_alloc ?_ _)); exact BK183.out) Try.underlying30 rfl (by kernel_rfl)) rfl ?_
              exact ⟨_, _, by first | rfl | (simp [errW_none, errW_some] <;> rfl) | (simp [*, errW_none, errW_some] <;> rfl), by first | exact Kd.R_nil _ _ _ _ _ | exact Kd.N_nil _ _ _ _ _ | exact Kd.V_nil _ _ _ _ _ | exact Kd.Q_nil _ _ _ _ _ | exact Kd.S_nil _ _ _ _ _, by first | exact Kd.R_nil _ _ _ _ _ | exact Kd.N_nil _ _ _ _ _ | exact Kd.V_nil _ _ _ _ _ | exact Kd.Q_nil _ _ _ _ _ | exact Kd.S_nil _ _ _ _ _, by repeat (first | (with_reducible first | exact HB.out | apply below_alloc | apply pw_below_drewN | apply below_drew1 | refine below_set ?_ GE182.out | refine below_set ?_ GE183.out | refine below_set ?_ GE190.out) | exact HB.out)⟩
             ·
              rw [if_neg c45] at H
              have c45b0 : decide ((l0_0.length : Int) ≤ (rd l1 x8_2)) = false := decide_eq_false c45
              clear c45
              by_cases c51 : 0 ≤ (rd l1 x8_2)
              ·
               rw [if_pos c51] at H
               have c51b0 : decide (0 ≤ (rd l1 x8_2)) = true := decide_eq_true c51
               clear c51
               by_cases c52 : (rd l1 x8_2) < (x191000_2.length : Int)
               ·
                rw [if_pos c52] at H
                have c52b0 : decide ((rd l1 x8_2) < (x191000_2.length : Int)) = true := decide_eq_true c52
                clear c52
                by_cases c53 : (rd x191000_2 (rd l1 x8_2)) = (-1)
                ·
                 rw [if_pos c53] at H
                 have c53b0 : ((rd x191000_2 (rd l1 x8_2)) == (-1)) = true := beq_iff_eq.mpr c53
                 have c53b1 : ((rd x191000_2 (rd l1 x8_2)) != (-1)) = false := bne_eq_false_iff_eq.mpr c53
                 clear c53
                 obtain ⟨y194, hy194⟩ : ∃ y_ : List Int, y_ = (x191000_2.set ((rd l1 x8_2) : Int).toNat x191002_2) := ⟨_, rfl⟩
                 replace H : (if (rd l1 x8_2) < (l0_0.length : Int) then (spliceref12_Plan.l1 k2 l1 (wrap64 (x8_2 + 1)) l0_0 l0_1 a0_2 y194 x191001_2 (wrap64 (x191002_2 + (((rd_T42 l0_0 (rd l1 x8_2)).f3).length : Int))) 0 0) else (none)) = some (r1, r2, r3, r4, r5, r6) := by first | (rw [hy194]; with_reducible exact H) | (have H2_ := (Option.bind_some _ _).symm.trans H; rw [hy194]; with_reducible exact H2_) | (have H2_ := (Option.bind_some _ _).symm.trans H; with_reducible exact H2_) | with_reducible exact H | (rw [hy194]; exact H) | exact H
                 have Ny194 := Aside0.mk hy194
                 clear hy194
                 by_cases c55 : (rd l1 x8_2) < (l0_0.length : Int)
                 ·
                  rw [if_pos c55] at H
                  have c55b0 : decide ((rd l1 x8_2) < (l0_0.length : Int)) = true := decide_eq_true c55
                  clear c55
                  have H' := Aside0.mk H
                  clear H
                  have p192 : 0 ≤ (x8_2 : Int) := of_decide_eq_true (by first | (with_reducible assumption) | assumption)
                  have q192 : x8_2 < (l1.length : Int) := of_decide_eq_true (by first | (with_reducible assumption) | assumption)
                  obtain ⟨ad192, e192, hx192_0⟩ := Kd.at_int HR1.out x8_2 p192 q192
                  cases e192
                  replace hx192_0 := (HB.out.cell (World.block_lt_of_cell? w _ hx192_0)).trans hx192_0
                  replace p192 := eq_true p192
                  replace q192 := eq_true q192
                  have hnb56 := NB182_183.out
                  have hnc56 := NB183_182.out
                  have hnb57 := NB182_190.out
                  have hnc57 := NB190_182.out
                  have hcz58_0 : wr.cell? ⟨gb182, 0, none⟩ = some (.slice A0_0 l0_0.length c0_0) := (blk_cell BK182.out 0).trans rfl
                  have hcz58_1 : wr.cell? ⟨gb182, 1, none⟩ = some (.slice A0_1 l0_1.length c0_1) := (blk_cell BK182.out 1).trans rfl
                  have hcz58_2 : wr.cell? ⟨gb182, 2, none⟩ = some (.int .i64 a0_2) := (blk_cell BK182.out 2).trans rfl
                  have hfz58_0 := blk_frozen BK182.out 0
                  have hfz58_1 := blk_frozen BK182.out 1
                  have hfz58_2 := blk_frozen BK182.out 2
                  have hnb59 := NB190_183.out
                  have hnc59 := NB183_190.out
                  have hcz60_0 : wr.cell? ⟨gb190, 0, none⟩ = some (u191000) := (blk_cell BK190.out 0).trans rfl
                  have hcz60_1 : wr.cell? ⟨gb190, 1, none⟩ = some (u191001) := (blk_cell BK190.out 1).trans rfl
                  have hcz60_2 : wr.cell? ⟨gb190, 2, none⟩ = some (.int .i64 x191002_2) := (blk_cell BK190.out 2).trans rfl
                  have hcz60_3 : wr.cell? ⟨gb190, 3, none⟩ = some (.int .i64 0) := (blk_cell BK190.out 3).trans rfl
                  have hcz60_4 : wr.cell? ⟨gb190, 4, none⟩ = some (.int .i64 0) := (blk_cell BK190.out 4).trans rfl
                  have hfz60_0 := blk_frozen BK190.out 0
                  have hfz60_1 := blk_frozen BK190.out 1
                  have hfz60_2 := blk_frozen BK190.out 2
                  have hfz60_3 := blk_frozen BK190.out 3
                  have hfz60_4 := blk_frozen BK190.out 4
                  obtain ⟨Ao61, co61, eo61⟩ := Kd.R_slice HO_191000.out
                  subst eo61
                  have p193 : 0 ≤ ((rd l1 x8_2) : Int) := of_decide_eq_true (by first | (with_reducible assumption) | assumption)
                  have q193 : (rd l1 x8_2) < (x191000_2.length : Int) := of_decide_eq_true (by first | (with_reducible assumption) | assumption)
                  obtain ⟨ad193, e193, hx193_0⟩ := Kd.at_int (Kd.R_reads' HO_191000.out).2.2 (rd l1 x8_2) p193 q193
                  cases e193
                  replace p193 := eq_true p193
                  replace q193 := eq_true q193
                  have p54 : 0 ≤ ((rd l1 x8_2) : Int) := of_decide_eq_true (by first | (with_reducible assumption) | assumption)
                  have q54 : ((rd l1 x8_2) : Int) < ((x191000_2.length : Int) : Int) := of_decide_eq_true (by first | (with_reducible assumption) | assumption)
                  obtain ⟨go54, co54, eo54, gb54, gl54, cl54, HG54⟩ := Kd.R_form HO_191000.out (by omega)
                  (first | cases eo54 | (injection eo54 with ea_ en_ ec_; (first | subst ea_ | (injection ea_ with ea_; subst ea_)); subst ec_; clear en_))
                  have GB54 := Aside0.mk gb54
                  have GG54 := Aside0.mk HG54
                  clear gb54 gl54 HG54
                  (first | simp only [add_plain] at hx193_0 | skip)
                  obtain ⟨hx54_0, hf54_0⟩ := Kd.R_celln 0 HO_191000.out ((rd l1 x8_2) : Int) p54 q54
                  replace p54 := eq_true p54
                  replace q54 := eq_true q54
                  have HP62 := Kd.R_putg HO_191000.out ((rd l1 x8_2) : Int) x191002_2
                  try go_wp2_with (first | ((with_reducible refine gate_store (t := 3) (p := 65) rfl ?_); refine store_event (t := 3) (p := 65) (v := ?vo_w63) (w1 := (wr.setCell ⟨go54, ((rd l1 x8_2) : Int).toNat, none⟩ (.int .i64 x191002_2))) ?hg ?ho ?hn ?hr ?_; (case ho => rfl); (case hg => rfl); (case hn => rfl); (case hr => first | (go_simp; done) | (go_simp; rfl)); intro w63 hw; have hg : wr.grownBy w63 (some go54) := (by rw [hw]; exact HP62.2); have hp_ : Kd.R (Kd.int .i64) 3 w63 w.heap.size (fun k_ => some k_ ≠ (u191001 : Value).ownBlock) (.slice (some ⟨go54, 0, none⟩) x191000_2.length co61) y194 := (by rw [hw, Ny194.out]; exact HP62.1); clear HP62; have n0_ := Aside0.mk (hp_); have n1_ := Aside0.mk (Kd.R_after (v := (.slice (some ⟨go54, 0, none⟩) x191000_2.length co61)) (v1 := (.slice (some ⟨go54, 0, none⟩) x191000_2.length co61)) (ok := (fun _ => True)) (by (with_reducible repeat (first | apply Kd.R_alloc | apply Kd.R_drewN | apply Kd.R_drew)); exact Kd.R_mono HO_191001.out (fun _ hk => ⟨trivial, hk⟩)) hg (.inl rfl)); have n2_ := Aside0.mk (blk_grown (g := gb182) (o := .cells #[.slice A0_0 l0_0.length c0_0, .slice A0_1 l0_1.length c0_1, .int .i64 a0_2] 25 (0, 0)) (by (with_reducible repeat (first | refine blk_drewN ?_ _ | refine blk_drew ?_ | refine blk_alloc ?_ _)); exact BK182.out) hg (Kd.R_ne HO_191000.out BK182.out (by decide))); have n3_ := Aside0.mk (blk_grown (g := gb183) (o := .cells #[.slice none 0 0, .slice none 0 0, .int .i64 x184002_2, .int .i64 x184003_2, .int .i64 x184004_2] 30 (0, 0)) (by (with_reducible repeat (first | refine blk_drewN ?_ _ | refine blk_drew ?_ | refine blk_alloc ?_ _)); exact BK183.out) hg (Kd.R_ne HO_191000.out BK183.out (by decide))); have n4_ := Aside0.mk (blk_grown (g := gb190) (o := .cells #[.slice (some ⟨go54, 0, none⟩) x191000_2.length co61, u191001, .int .i64 x191002_2, .int .i64 0, .int .i64 0] 30 (0, 0)) (by (with_reducible repeat (first | refine blk_drewN ?_ _ | refine blk_drew ?_ | refine blk_alloc ?_ _)); exact BK190.out) hg (Kd.R_ne HO_191000.out BK190.out (by decide))); have n5_ := Aside0.mk ((by rw [hw]; exact below_set (HB.out) GB54.out : Below w.heap.size w w63)); clear HO_191000; clear HO_191001; clear BK182; clear BK183; clear BK190; clear HB; have HO_191000 := n0_; have HO_191001 := n1_; have BK182 := n2_; have BK183 := n3_; have BK190 := n4_; have HB := n5_; clear n0_ n1_ n2_ n3_ n4_ n5_; clear hg hw hp_))
                  have n0_ := Aside0.mk (Kd.R_drew HO_191000.out)
                  have n1_ := Aside0.mk (Kd.R_drew HO_191001.out)
                  have n2_ := Aside0.mk (blk_drew BK182.out)
                  have n3_ := Aside0.mk (blk_drew BK183.out)
                  have n4_ := Aside0.mk (blk_drew BK190.out)
                  have n5_ := Aside0.mk (below_drew1 HB.out)
                  clear HO_191000
                  clear HO_191001
                  clear BK182
                  clear BK183
                  clear BK190
                  clear HB
                  have HO_191000 := n0_
                  have HO_191001 := n1_
                  have BK182 := n2_
                  have BK183 := n3_
                  have BK190 := n4_
                  have HB := n5_
                  clear n0_ n1_ n2_ n3_ n4_ n5_
                  have p195 : 0 ≤ ((rd l1 x8_2) : Int) := of_decide_eq_true (by first | (with_reducible assumption) | assumption)
                  have q195 : (rd l1 x8_2) < (l0_0.length : Int) := of_decide_eq_true (by first | (with_reducible assumption) | assumption)
                  obtain ⟨ad195, A195_3, c195_3, A195_4, c195_4, e195, hx195_0, hx195_1, hx195_2, hx195_3, hx195_4, hl195_3, hi195_3, hl195_4, hi195_4⟩ := at_T42 HR0_0.out (rd l1 x8_2) p195 q195
                  have hw195_4 := hx195_4
                  have hw195_3 := hx195_3
                  have hw195_2 := hx195_2
                  have hw195_1 := hx195_1
                  have hw195_0 := hx195_0
                  cases e195
                  replace hx195_0 := (HB.out.cell (World.block_lt_of_cell? w _ hx195_0)).trans hx195_0
                  replace hx195_1 := (HB.out.cell (World.block_lt_of_cell? w _ hx195_1)).trans hx195_1
                  replace hx195_2 := (HB.out.cell (World.block_lt_of_cell? w _ hx195_2)).trans hx195_2
                  replace hx195_3 := (HB.out.cell (World.block_lt_of_cell? w _ hx195_3)).trans hx195_3
                  replace hx195_4 := (HB.out.cell (World.block_lt_of_cell? w _ hx195_4)).trans hx195_4
                  have HR195_3 := Aside0.mk hi195_3
                  have HC195_3 := Aside0.mk hl195_3
                  clear hi195_3 hl195_3
                  have HR195_4 := Aside0.mk hi195_4
                  have HC195_4 := Aside0.mk hl195_4
                  clear hi195_4 hl195_4
                  replace p195 := eq_true p195
                  replace q195 := eq_true q195
                  refine start_ (n := 12) (S := fun w' => w'.cell? ⟨gb190, 0, none⟩ = some (.slice (some ⟨go54, 0, none⟩) x191000_2.length co61) ∧ w'.cell? ⟨gb190, 1, none⟩ = some (u191001) ∧ w'.cell? ⟨gb190, 2, none⟩ = some (.int .i64 x191002_2) ∧ w'.cell? ⟨gb190, 3, none⟩ = some (.int .i64 0) ∧ w'.cell? ⟨gb190, 4, none⟩ = some (.int .i64 0) ∧ w'.cell? ⟨gb182, 0, none⟩ = some (.slice (some ad195) l0_0.length c0_0) ∧ w'.cell? ⟨gb182, 1, none⟩ = some (.slice A0_1 l0_1.length c0_1) ∧ w'.cell? ⟨gb182, 2, none⟩ = some (.int .i64 a0_2) ∧ w'.cell? (ad195.add (((rd l1 x8_2)).toNat * 5)) = some (.string ((rd_T42 l0_0 (rd l1 x8_2)).f0)) ∧ w'.cell? ⟨(ad195.add (((rd l1 x8_2)).toNat * 5)).block, (ad195.add (((rd l1 x8_2)).toNat * 5)).off + 1, none⟩ = some (.bool ((rd_T42 l0_0 (rd l1 x8_2)).f1)) ∧ w'.cell? ⟨(ad195.add (((rd l1 x8_2)).toNat * 5)).block, (ad195.add (((rd l1 x8_2)).toNat * 5)).off + 2, none⟩ = some (.bool ((rd_T42 l0_0 (rd l1 x8_2)).f2)) ∧ w'.cell? ⟨(ad195.add (((rd l1 x8_2)).toNat * 5)).block, (ad195.add (((rd l1 x8_2)).toNat * 5)).off + 3, none⟩ = some (.slice A195_3 ((rd_T42 l0_0 (rd l1 x8_2)).f3).length c195_3) ∧ w'.cell? ⟨(ad195.add (((rd l1 x8_2)).toNat * 5)).block, (ad195.add (((rd l1 x8_2)).toNat * 5)).off + 4, none⟩ = some (.slice A195_4 ((rd_T42 l0_0 (rd l1 x8_2)).f4).length c195_4)) (ds := [11]) #[false, false, false, false, false, false, false, false, false, false, false, false] (by kernel_rfl) rfl rfl ⟨(blk_cell BK190.out 0).trans rfl, (blk_cell BK190.out 1).trans rfl, (blk_cell BK190.out 2).trans rfl, (blk_cell BK190.out 3).trans rfl, (blk_cell BK190.out 4).trans rfl, (blk_cell BK182.out 0).trans rfl, (blk_cell BK182.out 1).trans rfl, (blk_cell BK182.out 2).trans rfl, ((HB.out.cell (World.block_lt_of_cell? w _ hw195_0)).trans hw195_0), ((HB.out.cell (World.block_lt_of_cell? w _ hw195_1)).trans hw195_1), ((HB.out.cell (World.block_lt_of_cell? w _ hw195_2)).trans hw195_2), ((HB.out.cell (World.block_lt_of_cell? w _ hw195_3)).trans hw195_3), ((HB.out.cell (World.block_lt_of_cell? w _ hw195_4)).trans hw195_4)⟩ (fun hHeld => ?_); refine with_tabW spliceref12_Plan.tab13 spliceref12_Plan.bits13 (fun HT_ HW_ => ?_)
                  generalize w63.drew = w64 at HO_191000 HO_191001 BK182 BK183 BK190 HB HR195_3 HR195_4 hx195_0 hx195_1 hx195_2 hx195_3 hx195_4 hHeld ⊢
                  refine pure_ (i := 0) (N := some 66) (v := ?_) (a' := ?_) #[true, false, false, false, false, false, false, false, false, false, false, false] rfl rfl (any_of HT_.out (by kernel_rfl)) (fun _ _ _ h => h) (Or.inl ⟨by rfl, ?_⟩) ?_ ?_
                  rotate_left
                  ·
                   intro w'
                   go_simp
                   with_reducible rfl
                  rotate_left
                  ·
                   simp only [Act.put, List.setIfInBounds_toArray, List.set_cons_zero, List.set_cons_succ, i64_w, i32_w]
                   rfl
                  refine pure_ (i := 2) (N := some 68) (v := ?_) (a' := ?_) #[true, false, true, false, false, false, false, false, false, false, false, false] rfl rfl (any_of HT_.out (by kernel_rfl)) (fun _ _ _ h => h) (Or.inl ⟨by rfl, ?_⟩) ?_ ?_
                  rotate_left
                  ·
                   intro w'
                   go_simp
                   with_reducible rfl
                  rotate_left
                  ·
                   simp only [Act.put, List.setIfInBounds_toArray, List.set_cons_zero, List.set_cons_succ, i64_w, i32_w]
                   rfl
                  refine pure_ (i := 4) (N := some 70) (v := ?_) (a' := ?_) #[true, false, true, false, true, false, false, false, false, false, false, false] rfl rfl (any_of HT_.out (by kernel_rfl)) (fun _ _ _ h => h) (Or.inl ⟨by rfl, ?_⟩) ?_ ?_
                  rotate_left
                  ·
                   intro w'
                   go_simp
                   with_reducible rfl
                  rotate_left
                  ·
                   simp only [Act.put, List.setIfInBounds_toArray, List.set_cons_zero, List.set_cons_succ, i64_w, i32_w]
                   rfl
                  refine take_ (i := 1) (N := some 67) (v := ?_) (a' := ?_) #[true, true, true, false, true, false, false, false, false, false, false, false] rfl rfl (take_ofW HT_.out HW_.out (by kernel_rfl)) (fun _ _ _ h => h) (Or.inl ⟨by rfl, ?_⟩) hHeld ?_ ?_
                  rotate_left
                  ·
                   rintro w' ⟨s0, s1, s2, s3, s4, s5, s6, s7, s8, s9, s10, s11, s12⟩
                   go_simp
                   with_reducible rfl
                  rotate_left
                  ·
                   simp only [Act.put, List.setIfInBounds_toArray, List.set_cons_zero, List.set_cons_succ, i64_w, i32_w]
                   rfl
                  refine take_ (i := 3) (N := some 69) (v := ?_) (a' := ?_) #[true, true, true, true, true, false, false, false, false, false, false, false] rfl rfl (take_ofW HT_.out HW_.out (by kernel_rfl)) (fun _ _ _ h => h) (Or.inl ⟨by rfl, ?_⟩) hHeld ?_ ?_
                  rotate_left
                  ·
                   rintro w' ⟨s0, s1, s2, s3, s4, s5, s6, s7, s8, s9, s10, s11, s12⟩
                   go_simp
                   with_reducible rfl
                  rotate_left
                  ·
                   simp only [Act.put, List.setIfInBounds_toArray, List.set_cons_zero, List.set_cons_succ, i64_w, i32_w]
                   rfl
                  refine pure_ (i := 5) (N := some 71) (v := ?_) (a' := ?_) #[true, true, true, true, true, true, false, false, false, false, false, false] rfl rfl (any_of HT_.out (by kernel_rfl)) (fun _ _ _ h => h) (Or.inl ⟨by rfl, ?_⟩) ?_ ?_
                  rotate_left
                  ·
                   intro w'
                   go_simp
                   with_reducible rfl
                  rotate_left
                  ·
                   simp only [Act.put, List.setIfInBounds_toArray, List.set_cons_zero, List.set_cons_succ, i64_w, i32_w]
                   rfl
                  refine pure_ (i := 6) (N := some 72) (v := ?_) (a' := ?_) #[true, true, true, true, true, true, true, false, false, false, false, false] rfl rfl (any_of HT_.out (by kernel_rfl)) (fun _ _ _ h => h) (Or.inl ⟨by rfl, ?_⟩) ?_ ?_
                  rotate_left
                  ·
                   intro w'
                   go_simp
                   with_reducible rfl
                  rotate_left
                  ·
                   simp only [Act.put, List.setIfInBounds_toArray, List.set_cons_zero, List.set_cons_succ, i64_w, i32_w]
                   rfl
                  refine take_ (i := 7) (N := some 73) (v := ?_) (a' := ?_) #[true, true, true, true, true, true, true, true, false, false, false, false] rfl rfl (take_ofW HT_.out HW_.out (by kernel_rfl)) (fun _ _ _ h => h) (Or.inl ⟨by rfl, ?_⟩) hHeld ?_ ?_
                  rotate_left
                  ·
                   rintro w' ⟨s0, s1, s2, s3, s4, s5, s6, s7, s8, s9, s10, s11, s12⟩
                   go_simp
                   with_reducible rfl
                  rotate_left
                  ·
                   simp only [Act.put, List.setIfInBounds_toArray, List.set_cons_zero, List.set_cons_succ, i64_w, i32_w]
                   rfl
                  refine pure_ (i := 8) (N := some 74) (v := ?_) (a' := ?_) #[true, true, true, true, true, true, true, true, true, false, false, false] rfl rfl (any_of HT_.out (by kernel_rfl)) (fun _ _ _ h => h) (Or.inl ⟨by rfl, ?_⟩) ?_ ?_
                  rotate_left
                  ·
                   intro w'
                   go_simp
                   with_reducible rfl
                  rotate_left
                  ·
                   simp only [Act.put, List.setIfInBounds_toArray, List.set_cons_zero, List.set_cons_succ, i64_w, i32_w]
                   rfl
                  refine pure_ (i := 9) (N := some 75) (v := ?_) (a' := ?_) #[true, true, true, true, true, true, true, true, true, true, false, false] rfl rfl (any_of HT_.out (by kernel_rfl)) (fun _ _ _ h => h) (Or.inl ⟨by rfl, ?_⟩) ?_ ?_
                  rotate_left
                  ·
                   intro w'
                   go_simp
                   with_reducible rfl
                  rotate_left
                  ·
                   simp only [Act.put, List.setIfInBounds_toArray, List.set_cons_zero, List.set_cons_succ, i64_w, i32_w]
                   rfl
                  refine pure_ (i := 10) (N := some 76) (v := ?_) (a' := ?_) #[true, true, true, true, true, true, true, true, true, true, true, false] rfl rfl (any_of HT_.out (by kernel_rfl)) (fun _ _ _ h => h) (Or.inl ⟨by rfl, ?_⟩) ?_ ?_
                  rotate_left
                  ·
                   intro w'
                   go_simp
                   with_reducible rfl
                  rotate_left
                  ·
                   simp only [Act.put, List.setIfInBounds_toArray, List.set_cons_zero, List.set_cons_succ, i64_w, i32_w]
                   rfl
                  refine last_ (i := 11) (N := none) #[true, true, true, true, true, true, true, true, true, true, true, true] rfl rfl (one_of HT_.out (by kernel_rfl)) (by decide) (fun K hK => ?_)
                  have hs65 : w64.cell? ⟨gb190, 2, none⟩ = some (.int .i64 x191002_2) := (blk_cell BK190.out 2).trans rfl
                  have hfs65 := blk_frozen BK190.out 2
                  have hns65_0 := NB182_190.out
                  have hns65_1 := NB183_190.out
                  have hms65_0 := NB190_182.out
                  have hms65_1 := NB190_183.out
                  refine skip_ (w1 := ?_) (by rfl) rfl ?_ ?_
                  rotate_left
                  ·
                   go_simp
                   rfl
                  refine hK.out _ _ ?_
                  clear hK K
                  refine done_ (done_of HT_.out (by kernel_rfl)) ?_
                  try go_wp2
                  go_roundg k2
                  case measure => have := HK1.out; have := HK2.out; omega
                  case rel => exact ⟨(wrap64 (x8_2 + 1)), (x184002_2), (x184003_2), (x184004_2), (y194), (x191001_2), (wrap64 (x191002_2 + (((rd_T42 l0_0 (rd l1 x8_2)).f3).length : Int))), (.slice (some ⟨go54, 0, none⟩) x191000_2.length co61), (u191001), (by first | rfl | (simp; done) | (simp [*]; done)), H', ⟨by have := HK1.out; have := HK2.out; omega⟩, ⟨by (with_reducible repeat (first | apply Kd.R_alloc | apply Kd.R_drewN | apply Kd.R_drew)); exact Kd.R_mono (Kd.R_far (p := ⟨gb190, 2, none⟩) (Kd.R_types HO_191000.out BK190.out (by decide)) (fun _ hk => hk.2) (.int .i64 (wrap64 (x191002_2 + (((rd_T42 l0_0 (rd l1 x8_2)).f3).length : Int))))) (fun _ hk => hk.1)⟩, ⟨by (with_reducible repeat (first | apply Kd.R_alloc | apply Kd.R_drewN | apply Kd.R_drew)); exact Kd.R_mono (Kd.R_far (p := ⟨gb190, 2, none⟩) (Kd.R_types HO_191001.out BK190.out (by decide)) (fun _ hk => hk.2) (.int .i64 (wrap64 (x191002_2 + (((rd_T42 l0_0 (rd l1 x8_2)).f3).length : Int))))) (fun _ hk => hk.1.2)⟩, ⟨by (with_reducible repeat (first | refine blk_drewN ?_ _ | refine blk_drew ?_ | refine blk_alloc ?_ _)); refine blk_far ?_ NB182_190.out _; (with_reducible repeat (first | refine blk_drewN ?_ _ | refine blk_drew ?_ | refine blk_alloc ?_ _)); exact BK182.out⟩, ⟨by (with_reducible repeat (first | refine blk_drewN ?_ _ | refine blk_drew ?_ | refine blk_alloc ?_ _)); refine blk_far ?_ NB183_190.out _; (with_reducible repeat (first | refine blk_drewN ?_ _ | refine blk_drew ?_ | refine blk_alloc ?_ _)); exact BK183.out⟩, ⟨by (with_reducible repeat (first | refine blk_drewN ?_ _ | refine blk_drew ?_ | refine blk_alloc ?_ _)); refine blk_put (cs := #[.slice (some ⟨go54, 0, none⟩) x191000_2.length co61, u191001, .int .i64 x191002_2, .int .i64 0, .int .i64 0]) ?_ 2 _ rfl; (with_reducible repeat (first | refine blk_drewN ?_ _ | refine blk_drew ?_ | refine blk_alloc ?_ _)); exact BK190.out⟩, ⟨by repeat (first | (with_reducible first | exact HB.out | apply below_alloc | apply pw_below_drewN | apply below_drew1 | refine below_set ?_ GE182.out | refine below_set ?_ GE183.out | refine below_set ?_ GE190.out) | exact HB.out)⟩⟩
                 ·
                  rw [if_neg c55] at H
                  exact absurd H (by simp)
                ·
                 rw [if_neg c53] at H
                 have c53b0 : ((rd x191000_2 (rd l1 x8_2)) == (-1)) = false := beq_eq_false_iff_ne.mpr c53
                 have c53b1 : ((rd x191000_2 (rd l1 x8_2)) != (-1)) = true := bne_iff_ne.mpr c53
                 simp only [Option.some.injEq, Prod.mk.injEq] at H
                 obtain ⟨rfl, rfl, rfl, rfl, rfl, rfl⟩ := H
                 have p192 : 0 ≤ (x8_2 : Int) := of_decide_eq_true (by first | (with_reducible assumption) | assumption)
                 have q192 : x8_2 < (l1.length : Int) := of_decide_eq_true (by first | (with_reducible assumption) | assumption)
                 obtain ⟨ad192, e192, hx192_0⟩ := Kd.at_int HR1.out x8_2 p192 q192
                 cases e192
                 replace hx192_0 := (HB.out.cell (World.block_lt_of_cell? w _ hx192_0)).trans hx192_0
                 replace p192 := eq_true p192
                 replace q192 := eq_true q192
                 have hnb66 := NB182_183.out
                 have hnc66 := NB183_182.out
                 have hnb67 := NB182_190.out
                 have hnc67 := NB190_182.out
                 have hcz68_0 : wr.cell? ⟨gb182, 0, none⟩ = some (.slice A0_0 l0_0.length c0_0) := (blk_cell BK182.out 0).trans rfl
                 have hcz68_1 : wr.cell? ⟨gb182, 1, none⟩ = some (.slice A0_1 l0_1.length c0_1) := (blk_cell BK182.out 1).trans rfl
                 have hcz68_2 : wr.cell? ⟨gb182, 2, none⟩ = some (.int .i64 a0_2) := (blk_cell BK182.out 2).trans rfl
                 have hfz68_0 := blk_frozen BK182.out 0
                 have hfz68_1 := blk_frozen BK182.out 1
                 have hfz68_2 := blk_frozen BK182.out 2
                 have hnb69 := NB190_183.out
                 have hnc69 := NB183_190.out
                 have hcz70_0 : wr.cell? ⟨gb190, 0, none⟩ = some (u191000) := (blk_cell BK190.out 0).trans rfl
                 have hcz70_1 : wr.cell? ⟨gb190, 1, none⟩ = some (u191001) := (blk_cell BK190.out 1).trans rfl
                 have hcz70_2 : wr.cell? ⟨gb190, 2, none⟩ = some (.int .i64 x191002_2) := (blk_cell BK190.out 2).trans rfl
                 have hcz70_3 : wr.cell? ⟨gb190, 3, none⟩ = some (.int .i64 0) := (blk_cell BK190.out 3).trans rfl
                 have hcz70_4 : wr.cell? ⟨gb190, 4, none⟩ = some (.int .i64 0) := (blk_cell BK190.out 4).trans rfl
                 have hfz70_0 := blk_frozen BK190.out 0
                 have hfz70_1 := blk_frozen BK190.out 1
                 have hfz70_2 := blk_frozen BK190.out 2
                 have hfz70_3 := blk_frozen BK190.out 3
                 have hfz70_4 := blk_frozen BK190.out 4
                 obtain ⟨Ao71, co71, eo71⟩ := Kd.R_slice HO_191000.out
                 subst eo71
                 have p193 : 0 ≤ ((rd l1 x8_2) : Int) := of_decide_eq_true (by first | (with_reducible assumption) | assumption)
                 have q193 : (rd l1 x8_2) < (x191000_2.length : Int) := of_decide_eq_true (by first | (with_reducible assumption) | assumption)
                 obtain ⟨ad193, e193, hx193_0⟩ := Kd.at_int (Kd.R_reads' HO_191000.out).2.2 (rd l1 x8_2) p193 q193
                 cases e193
                 replace p193 := eq_true p193
                 replace q193 := eq_true q193
                 have hcz72_0 : wr.cell? ⟨gb183, 0, none⟩ = some (.slice none 0 0) := (blk_cell BK183.out 0).trans rfl
                 have hcz72_1 : wr.cell? ⟨gb183, 1, none⟩ = some (.slice none 0 0) := (blk_cell BK183.out 1).trans rfl
                 have hcz72_2 : wr.cell? ⟨gb183, 2, none⟩ = some (.int .i64 x184002_2) := (blk_cell BK183.out 2).trans rfl
                 have hcz72_3 : wr.cell? ⟨gb183, 3, none⟩ = some (.int .i64 x184003_2) := (blk_cell BK183.out 3).trans rfl
                 have hcz72_4 : wr.cell? ⟨gb183, 4, none⟩ = some (.int .i64 x184004_2) := (blk_cell BK183.out 4).trans rfl
                 have hfz72_0 := blk_frozen BK183.out 0
                 have hfz72_1 := blk_frozen BK183.out 1
                 have hfz72_2 := blk_frozen BK183.out 2
                 have hfz72_3 := blk_frozen BK183.out 3
                 have hfz72_4 := blk_frozen BK183.out 4
                 go_wp2
                 refine bodyPost_ret (results_ct rfl _ _ gb183 30 #[.slice none 0 0, .slice none 0 0, .int .i64 0, .int .i64 0, .int .i64 0] (0, 0) _ rfl (by (with_reducible repeat (first | refine blk_drewN ?_ _ | refine blk_drew ?_ | refine blk_alloc ?_ _)); refine blk_put (cs := #[.slice none 0 0, .slice none 0 0, .int .i64 0, .int .i64 0, .int .i64 x184004_2]) ?_ 4 _ rfl; (with_reducible repeat (first | refine blk_drewN ?_ _ | refine blk_drew ?_ | refine blk_alloc ?_ _)); refine blk_put (cs := #[.slice none 0 0, .slice none 0 0, .int .i64 0, .int .i64 x184003_2, .int .i64 x184004_2]) ?_ 3 _ rfl; (with_reducible repeat (first | refine blk_drewN ?_ _ | refine blk_drew ?_ | refine blk_alloc ?_ _)); refine blk_put (cs := #[.slice none 0 0, .slice none 0 0, .int .i64 x184002_2, .int .i64 x184003_2, .int .i64 x184004_2]) ?_ 2 _ rfl; (with_reducible repeat (first | refine blk_drewN ?_ _ | refine blk_drew ?_ | refine blk_alloc ?_ _)); refine blk_put (cs := #[.slice none 0 0, .slice none 0 0, .int .i64 x184002_2, .int .i64 x184003_2, .int .i64 x184004_2]) ?_ 1 _ rfl; (with_reducible repeat (first | refine blk_drewN ?_ _ | refine blk_drew ?_ | refine blk_alloc ?_ _)); refine blk_put (cs := #[.slice none 0 0, .slice none 0 0, .int .i64 x184002_2, .int .i64 x184003_2, .int .i64 x184004_2]) ?_ 0 _ rfl; (with_reducible repeat (first | refine blk_drewN ?_ _ | refine blk_drew ?_ | refine blk_alloc ?_ _)); exact BK183.out) Try.underlying30 rfl (by kernel_rfl)) rfl ?_
                 exact ⟨_, _, by first | rfl | (simp [errW_none, errW_some] <;> rfl) | (simp [*, errW_none, errW_some] <;> rfl), by first | exact Kd.R_nil _ _ _ _ _ | exact Kd.N_nil _ _ _ _ _ | exact Kd.V_nil _ _ _ _ _ | exact Kd.Q_nil _ _ _ _ _ | exact Kd.S_nil _ _ _ _ _, by first | exact Kd.R_nil _ _ _ _ _ | exact Kd.N_nil _ _ _ _ _ | exact Kd.V_nil _ _ _ _ _ | exact Kd.Q_nil _ _ _ _ _ | exact Kd.S_nil _ _ _ _ _, by repeat (first | (with_reducible first | exact HB.out | apply below_alloc | apply pw_below_drewN | apply below_drew1 | refine below_set ?_ GE182.out | refine below_set ?_ GE183.out | refine below_set ?_ GE190.out) | exact HB.out)⟩
               ·
                rw [if_neg c52] at H
                exact absurd H (by simp)
              ·
               rw [if_neg c51] at H
               exact absurd H (by simp)
           ·
            rw [if_neg c40] at H
            exact absurd H (by simp)
          ·
           rw [if_neg c39] at H
           have c39b0 : decide (x8_2 < (l1.length : Int)) = false := decide_eq_false c39
           clear c39
           have HC73 := Aside0.mk H
           clear H
           go_upto_region 14 with (fail)
           go_cut [96] (fun v96 wc => ∃ (kq : Nat) (x96_72 : Bool), v96 = .bool x96_72 ∧ Aside0 (spliceref12_Plan.j2 kq x96_72 l0_0 l0_1 a0_2 x191000_2 x191001_2 x191002_2 0 0 = some (r1, r2, r3, r4, r5, r6)) ∧ Aside0 (kq ≤ k2) ∧ Aside0 (Kd.R (Kd.int .i64) 3 wc w.heap.size (fun k_ => some k_ ≠ (u191001 : Value).ownBlock) u191000 x191000_2) ∧ Aside0 (Kd.R (Kd.int .i64) 3 wc w.heap.size (fun k_ => some k_ ≠ (u191000 : Value).ownBlock) u191001 x191001_2) ∧ Aside0 (wc.heap[gb182]? = some (.cells #[(.slice A0_0 l0_0.length c0_0), (.slice A0_1 l0_1.length c0_1), .int .i64 a0_2] 25 (0, 0))) ∧ Aside0 (wc.heap[gb183]? = some (.cells #[(.slice none 0 0), (.slice none 0 0), .int .i64 x184002_2, .int .i64 x184003_2, .int .i64 x184004_2] 30 (0, 0))) ∧ Aside0 (wc.heap[gb190]? = some (.cells #[u191000, u191001, .int .i64 x191002_2, .int .i64 0, .int .i64 0] 30 (0, 0))) ∧ Aside0 (Below w.heap.size w wc))
           case first =>
            have H := HC73.out
            clear HC73
            by_cases c74 : a0_2 < 0
            ·
             rw [if_pos c74] at H
             have c74b0 : decide (a0_2 < 0) = true := decide_eq_true c74
             clear c74
             (first | (generalize hb_ : decide (a0_2 < 0) = bb_ at *; subst c74b0; have c74b0 := hb_; clear hb_) | rw [c74b0] | (simp only [i64_w, i32_w]; rw [c74b0]) | skip)
             have H' := Aside0.mk H
             clear H
             have hnb75 := NB182_183.out
             have hnc75 := NB183_182.out
             have hnb76 := NB182_190.out
             have hnc76 := NB190_182.out
             have hcz77_0 : wr.cell? ⟨gb182, 0, none⟩ = some (.slice A0_0 l0_0.length c0_0) := (blk_cell BK182.out 0).trans rfl
             have hcz77_1 : wr.cell? ⟨gb182, 1, none⟩ = some (.slice A0_1 l0_1.length c0_1) := (blk_cell BK182.out 1).trans rfl
             have hcz77_2 : wr.cell? ⟨gb182, 2, none⟩ = some (.int .i64 a0_2) := (blk_cell BK182.out 2).trans rfl
             have hfz77_0 := blk_frozen BK182.out 0
             have hfz77_1 := blk_frozen BK182.out 1
             have hfz77_2 := blk_frozen BK182.out 2
             go_wp2
             go_meet
             case rel => exact ⟨_, (true), (by first | rfl | (simp; done) | (simp [*]; done)), H', ⟨by have := HK1.out; have := HK2.out; first | omega | exact Nat.le_refl _⟩, ⟨by (with_reducible repeat (first | apply Kd.R_alloc | apply Kd.R_drewN | apply Kd.R_drew)); exact HO_191000.out⟩, ⟨by (with_reducible repeat (first | apply Kd.R_alloc | apply Kd.R_drewN | apply Kd.R_drew)); exact HO_191001.out⟩, ⟨by (with_reducible repeat (first | refine blk_drewN ?_ _ | refine blk_drew ?_ | refine blk_alloc ?_ _)); exact BK182.out⟩, ⟨by (with_reducible repeat (first | refine blk_drewN ?_ _ | refine blk_drew ?_ | refine blk_alloc ?_ _)); exact BK183.out⟩, ⟨by (with_reducible repeat (first | refine blk_drewN ?_ _ | refine blk_drew ?_ | refine blk_alloc ?_ _)); exact BK190.out⟩, ⟨by repeat (first | (with_reducible first | exact HB.out | apply below_alloc | apply pw_below_drewN | apply below_drew1 | refine below_set ?_ GE182.out | refine below_set ?_ GE183.out | refine below_set ?_ GE190.out) | exact HB.out)⟩⟩
            ·
             rw [if_neg c74] at H
             have c74b0 : decide (a0_2 < 0) = false := decide_eq_false c74
             clear c74
             (first | (generalize hb_ : decide (a0_2 < 0) = bb_ at *; subst c74b0; have c74b0 := hb_; clear hb_) | rw [c74b0] | (simp only [i64_w, i32_w]; rw [c74b0]) | skip)
             by_cases c78 : a0_2 ≥ (l0_0.length : Int)
             ·
              rw [if_pos c78] at H
              have c78b0 : decide ((l0_0.length : Int) ≤ a0_2) = true := decide_eq_true c78
              clear c78
              have H' := Aside0.mk H
              clear H
              have hnb79 := NB182_183.out
              have hnc79 := NB183_182.out
              have hnb80 := NB182_190.out
              have hnc80 := NB190_182.out
              have hcz81_0 : wr.cell? ⟨gb182, 0, none⟩ = some (.slice A0_0 l0_0.length c0_0) := (blk_cell BK182.out 0).trans rfl
              have hcz81_1 : wr.cell? ⟨gb182, 1, none⟩ = some (.slice A0_1 l0_1.length c0_1) := (blk_cell BK182.out 1).trans rfl
              have hcz81_2 : wr.cell? ⟨gb182, 2, none⟩ = some (.int .i64 a0_2) := (blk_cell BK182.out 2).trans rfl
              have hfz81_0 := blk_frozen BK182.out 0
              have hfz81_1 := blk_frozen BK182.out 1
              have hfz81_2 := blk_frozen BK182.out 2
              go_wp2
              go_meet
              case rel => exact ⟨_, (true), (by first | rfl | (simp; done) | (simp [*]; done)), H', ⟨by have := HK1.out; have := HK2.out; first | omega | exact Nat.le_refl _⟩, ⟨by (with_reducible repeat (first | apply Kd.R_alloc | apply Kd.R_drewN | apply Kd.R_drew)); exact HO_191000.out⟩, ⟨by (with_reducible repeat (first | apply Kd.R_alloc | apply Kd.R_drewN | apply Kd.R_drew)); exact HO_191001.out⟩, ⟨by (with_reducible repeat (first | refine blk_drewN ?_ _ | refine blk_drew ?_ | refine blk_alloc ?_ _)); exact BK182.out⟩, ⟨by (with_reducible repeat (first | refine blk_drewN ?_ _ | refine blk_drew ?_ | refine blk_alloc ?_ _)); exact BK183.out⟩, ⟨by (with_reducible repeat (first | refine blk_drewN ?_ _ | refine blk_drew ?_ | refine blk_alloc ?_ _)); exact BK190.out⟩, ⟨by repeat (first | (with_reducible first | exact HB.out | apply below_alloc | apply pw_below_drewN | apply below_drew1 | refine below_set ?_ GE182.out | refine below_set ?_ GE183.out | refine below_set ?_ GE190.out) | exact HB.out)⟩⟩
             ·
              rw [if_neg c78] at H
              have c78b0 : decide ((l0_0.length : Int) ≤ a0_2) = false := decide_eq_false c78
              clear c78
              by_cases c82 : 0 ≤ a0_2
              ·
               rw [if_pos c82] at H
               have c82b0 : decide (0 ≤ a0_2) = true := decide_eq_true c82
               clear c82
               by_cases c83 : a0_2 < (x191000_2.length : Int)
               ·
                rw [if_pos c83] at H
                have c83b0 : decide (a0_2 < (x191000_2.length : Int)) = true := decide_eq_true c83
                clear c83
                have H' := Aside0.mk H
                clear H
                have hnb84 := NB182_183.out
                have hnc84 := NB183_182.out
                have hnb85 := NB182_190.out
                have hnc85 := NB190_182.out
                have hcz86_0 : wr.cell? ⟨gb182, 0, none⟩ = some (.slice A0_0 l0_0.length c0_0) := (blk_cell BK182.out 0).trans rfl
                have hcz86_1 : wr.cell? ⟨gb182, 1, none⟩ = some (.slice A0_1 l0_1.length c0_1) := (blk_cell BK182.out 1).trans rfl
                have hcz86_2 : wr.cell? ⟨gb182, 2, none⟩ = some (.int .i64 a0_2) := (blk_cell BK182.out 2).trans rfl
                have hfz86_0 := blk_frozen BK182.out 0
                have hfz86_1 := blk_frozen BK182.out 1
                have hfz86_2 := blk_frozen BK182.out 2
                have hnb87 := NB190_183.out
                have hnc87 := NB183_190.out
                have hcz88_0 : wr.cell? ⟨gb190, 0, none⟩ = some (u191000) := (blk_cell BK190.out 0).trans rfl
                have hcz88_1 : wr.cell? ⟨gb190, 1, none⟩ = some (u191001) := (blk_cell BK190.out 1).trans rfl
                have hcz88_2 : wr.cell? ⟨gb190, 2, none⟩ = some (.int .i64 x191002_2) := (blk_cell BK190.out 2).trans rfl
                have hcz88_3 : wr.cell? ⟨gb190, 3, none⟩ = some (.int .i64 0) := (blk_cell BK190.out 3).trans rfl
                have hcz88_4 : wr.cell? ⟨gb190, 4, none⟩ = some (.int .i64 0) := (blk_cell BK190.out 4).trans rfl
                have hfz88_0 := blk_frozen BK190.out 0
                have hfz88_1 := blk_frozen BK190.out 1
                have hfz88_2 := blk_frozen BK190.out 2
                have hfz88_3 := blk_frozen BK190.out 3
                have hfz88_4 := blk_frozen BK190.out 4
                obtain ⟨Ao89, co89, eo89⟩ := Kd.R_slice HO_191000.out
                subst eo89
                have p196 : 0 ≤ (a0_2 : Int) := of_decide_eq_true (by first | (with_reducible assumption) | assumption)
                have q196 : a0_2 < (x191000_2.length : Int) := of_decide_eq_true (by first | (with_reducible assumption) | assumption)
                obtain ⟨ad196, e196, hx196_0⟩ := Kd.at_int (Kd.R_reads' HO_191000.out).2.2 a0_2 p196 q196
                cases e196
                replace p196 := eq_true p196
                replace q196 := eq_true q196
                go_wp2
                go_meet
                case rel => exact ⟨_, (((rd x191000_2 a0_2) == (-1))), (by first | rfl | (simp; done) | (simp [*]; done)), H', ⟨by have := HK1.out; have := HK2.out; first | omega | exact Nat.le_refl _⟩, ⟨by (with_reducible repeat (first | apply Kd.R_alloc | apply Kd.R_drewN | apply Kd.R_drew)); exact HO_191000.out⟩, ⟨by (with_reducible repeat (first | apply Kd.R_alloc | apply Kd.R_drewN | apply Kd.R_drew)); exact HO_191001.out⟩, ⟨by (with_reducible repeat (first | refine blk_drewN ?_ _ | refine blk_drew ?_ | refine blk_alloc ?_ _)); exact BK182.out⟩, ⟨by (with_reducible repeat (first | refine blk_drewN ?_ _ | refine blk_drew ?_ | refine blk_alloc ?_ _)); exact BK183.out⟩, ⟨by (with_reducible repeat (first | refine blk_drewN ?_ _ | refine blk_drew ?_ | refine blk_alloc ?_ _)); exact BK190.out⟩, ⟨by repeat (first | (with_reducible first | exact HB.out | apply below_alloc | apply pw_below_drewN | apply below_drew1 | refine below_set ?_ GE182.out | refine below_set ?_ GE183.out | refine below_set ?_ GE190.out) | exact HB.out)⟩⟩
               ·
                rw [if_neg c83] at H
                exact absurd H (by simp)
              ·
               rw [if_neg c82] at H
               exact absurd H (by simp)
           case rest =>
            clear HC73
            (try clear c1); (try clear p1); (try clear q1); (try clear hx1); (try clear c2); (try clear p2); (try clear q2); (try clear hx2); (try clear hf2); (try clear c3); (try clear c4); (try clear c5); (try clear p5); (try clear q5); (try clear hx5); (try clear hf5); (try clear c6); (try clear p6); (try clear c7); (try clear c8); (try clear c19); (try clear p19); (try clear q19); (try clear hx19); (try clear c25); (try clear c25b0); (try clear c26); (try clear c26b0); (try clear c27); (try clear c27b0); (try clear p28); (try clear q28); (try clear hx28); (try clear hf28); (try clear c29); (try clear c30); (try clear c32); (try clear c36); (try clear c37); (try clear c39); (try clear c39b0); (try clear c40); (try clear c40b0); (try clear c41); (try clear c41b0); (try clear c42); (try clear c43); (try clear c45); (try clear c45b0); (try clear c46); (try clear c47); (try clear c49); (try clear c51); (try clear c51b0); (try clear c52); (try clear c52b0); (try clear c53); (try clear c53b0); (try clear c53b1); (try clear p54); (try clear q54); (try clear hx54); (try clear hf54); (try clear c55); (try clear c55b0); (try clear c56); (try clear c57); (try clear c59); (try clear p64); (try clear c66); (try clear c67); (try clear c69); (try clear c74); (try clear c74b0); (try clear c75); (try clear c76); (try clear c78); (try clear c78b0); (try clear c79); (try clear c80); (try clear c82); (try clear c82b0); (try clear c83); (try clear c83b0); (try clear c84); (try clear c85); (try clear c87); (try clear hcz31_0); (try clear hcz31_1); (try clear hcz31_2); (try clear hcz33_0); (try clear hcz33_1); (try clear hcz33_2); (try clear hcz33_3); (try clear hcz33_4); (try clear hcz38_0); (try clear hcz38_1); (try clear hcz38_2); (try clear hcz44_0); (try clear hcz44_1); (try clear hcz44_2); (try clear hcz44_3); (try clear hcz44_4); (try clear hcz48_0); (try clear hcz48_1); (try clear hcz48_2); (try clear hcz50_0); (try clear hcz50_1); (try clear hcz50_2); (try clear hcz50_3); (try clear hcz50_4)
            (try clear hcz58_0); (try clear hcz58_1); (try clear hcz58_2); (try clear hcz60_0); (try clear hcz60_1); (try clear hcz60_2); (try clear hcz60_3); (try clear hcz60_4); (try clear hcz68_0); (try clear hcz68_1); (try clear hcz68_2); (try clear hcz70_0); (try clear hcz70_1); (try clear hcz70_2); (try clear hcz70_3); (try clear hcz70_4); (try clear hcz72_0); (try clear hcz72_1); (try clear hcz72_2); (try clear hcz72_3); (try clear hcz72_4); (try clear hcz77_0); (try clear hcz77_1); (try clear hcz77_2); (try clear hcz81_0); (try clear hcz81_1); (try clear hcz81_2); (try clear hcz86_0); (try clear hcz86_1); (try clear hcz86_2); (try clear hcz88_0); (try clear hcz88_1); (try clear hcz88_2); (try clear hcz88_3); (try clear hcz88_4); (try clear hfz31_0); (try clear hfz31_1); (try clear hfz31_2); (try clear hfz33_0); (try clear hfz33_1); (try clear hfz33_2); (try clear hfz33_3); (try clear hfz33_4); (try clear hfz38_0); (try clear hfz38_1); (try clear hfz38_2); (try clear hfz44_0); (try clear hfz44_1); (try clear hfz44_2); (try clear hfz44_3); (try clear hfz44_4); (try clear hfz48_0); (try clear hfz48_1); (try clear hfz48_2); (try clear hfz50_0); (try clear hfz50_1); (try clear hfz50_2); (try clear hfz50_3); (try clear hfz50_4); (try clear hfz58_0); (try clear hfz58_1); (try clear hfz58_2); (try clear hfz60_0); (try clear hfz60_1); (try clear hfz60_2); (try clear hfz60_3); (try clear hfz60_4); (try clear hfz68_0); (try clear hfz68_1); (try clear hfz68_2); (try clear hfz70_0); (try clear hfz70_1); (try clear hfz70_2); (try clear hfz70_3); (try clear hfz70_4); (try clear hfz72_0); (try clear hfz72_1); (try clear hfz72_2); (try clear hfz72_3); (try clear hfz72_4); (try clear hfz77_0); (try clear hfz77_1); (try clear hfz77_2); (try clear hfz81_0); (try clear hfz81_1); (try clear hfz81_2); (try clear hfz86_0); (try clear hfz86_1); (try clear hfz86_2); (try clear hfz88_0); (try clear hfz88_1); (try clear hfz88_2); (try clear hfz88_3); (try clear hfz88_4); (try clear hx192_0); (try clear hx193_0)
            (try clear hx195_0); (try clear hx195_1); (try clear hx195_2); (try clear hx195_3); (try clear hx195_4); (try clear hx196_0); (try clear hx28_0); (try clear hx54_0); (try clear p192); (try clear p193); (try clear p195); (try clear p196); (try clear p2); (try clear p28); (try clear p54); (try clear p6); (try clear q192); (try clear q193); (try clear q195); (try clear q196); (try clear q2); (try clear q28); (try clear q54)
            obtain ⟨kq, x96_72, rfl, HA, HJ72, HO_191000, HO_191001, BK182, BK183, BK190, HB⟩ := hcut
            cases kq with
            | zero => exact absurd HA.out (by simp [spliceref12_Plan.j2])
            | succ kj72 =>
             have H := HA.out
             clear HA
             simp only [spliceref12_Plan.j2] at H
             by_cases c90 : x96_72 = true
             ·
              subst c90
              have H1 : (some (([] : List Int), ([] : List Int), 0, 0, 0, 1)) = some (r1, r2, r3, r4, r5, r6) := by rw [if_pos rfl] at H; exact H
              clear H
              have H := H1
              clear H1
              simp only [Option.some.injEq, Prod.mk.injEq] at H
              obtain ⟨rfl, rfl, rfl, rfl, rfl, rfl⟩ := H
              have hnb91 := NB183_182.out
              have hnc91 := NB182_183.out
              have hnb92 := NB183_190.out
              have hnc92 := NB190_183.out
              have hcz93_0 : wc.cell? ⟨gb183, 0, none⟩ = some (.slice none 0 0) := (blk_cell BK183.out 0).trans rfl
              have hcz93_1 : wc.cell? ⟨gb183, 1, none⟩ = some (.slice none 0 0) := (blk_cell BK183.out 1).trans rfl
              have hcz93_2 : wc.cell? ⟨gb183, 2, none⟩ = some (.int .i64 x184002_2) := (blk_cell BK183.out 2).trans rfl
              have hcz93_3 : wc.cell? ⟨gb183, 3, none⟩ = some (.int .i64 x184003_2) := (blk_cell BK183.out 3).trans rfl
              have hcz93_4 : wc.cell? ⟨gb183, 4, none⟩ = some (.int .i64 x184004_2) := (blk_cell BK183.out 4).trans rfl
              have hfz93_0 := blk_frozen BK183.out 0
              have hfz93_1 := blk_frozen BK183.out 1
              have hfz93_2 := blk_frozen BK183.out 2
              have hfz93_3 := blk_frozen BK183.out 3
              have hfz93_4 := blk_frozen BK183.out 4
              go_wp2
              refine bodyPost_ret (results_ct rfl _ _ gb183 30 #[.slice none 0 0, .slice none 0 0, .int .i64 0, .int .i64 0, .int .i64 0] (0, 0) _ rfl (by (with_reducible repeat (first | refine blk_drewN ?_ _ | refine blk_drew ?_ | refine blk_alloc ?_ _)); refine blk_put (cs := #[.slice none 0 0, .slice none 0 0, .int .i64 0, .int .i64 0, .int .i64 x184004_2]) ?_ 4 _ rfl; (with_reducible repeat (first | refine blk_drewN ?_ _ | refine blk_drew ?_ | refine blk_alloc ?_ _)); refine blk_put (cs := #[.slice none 0 0, .slice none 0 0, .int .i64 0, .int .i64 x184003_2, .int .i64 x184004_2]) ?_ 3 _ rfl; (with_reducible repeat (first | refine blk_drewN ?_ _ | refine blk_drew ?_ | refine blk_alloc ?_ _)); refine blk_put (cs := #[.slice none 0 0, .slice none 0 0, .int .i64 x184002_2, .int .i64 x184003_2, .int .i64 x184004_2]) ?_ 2 _ rfl; (with_reducible repeat (first | refine blk_drewN ?_ _ | refine blk_drew ?_ | refine blk_alloc ?_ _)); refine blk_put (cs := #[.slice none 0 0, .slice none 0 0, .int .i64 x184002_2, .int .i64 x184003_2, .int .i64 x184004_2]) ?_ 1 _ rfl; (with_reducible repeat (first | refine blk_drewN ?_ _ | refine blk_drew ?_ | refine blk_alloc ?_ _)); refine blk_put (cs := #[.slice none 0 0, .slice none 0 0, .int .i64 x184002_2, .int .i64 x184003_2, .int .i64 x184004_2]) ?_ 0 _ rfl; (with_reducible repeat (first | refine blk_drewN ?_ _ | refine blk_drew ?_ | refine blk_alloc ?_ _)); exact BK183.out) Try.underlying30 rfl (by kernel_rfl)) rfl ?_
              exact ⟨_, _, by first | rfl | (simp [errW_none, errW_some] <;> rfl) | (simp [*, errW_none, errW_some] <;> rfl), by first | exact Kd.R_nil _ _ _ _ _ | exact Kd.N_nil _ _ _ _ _ | exact Kd.V_nil _ _ _ _ _ | exact Kd.Q_nil _ _ _ _ _ | exact Kd.S_nil _ _ _ _ _, by first | exact Kd.R_nil _ _ _ _ _ | exact Kd.N_nil _ _ _ _ _ | exact Kd.V_nil _ _ _ _ _ | exact Kd.Q_nil _ _ _ _ _ | exact Kd.S_nil _ _ _ _ _, by repeat (first | (with_reducible first | exact HB.out | apply below_alloc | apply pw_below_drewN | apply below_drew1 | refine below_set ?_ GE182.out | refine below_set ?_ GE183.out | refine below_set ?_ GE190.out) | exact HB.out)⟩
             ·
              replace c90 := Bool.eq_false_iff.mpr c90
              subst c90
              have H1 : (spliceref12_Plan.l2 kj72 0 l0_0 l0_1 a0_2 x191000_2 x191001_2 x191002_2 0 0) = some (r1, r2, r3, r4, r5, r6) := by rw [if_neg (show ¬ (false = true) by decide)] at H; exact H
              clear H
              have H := H1
              clear H1
              have H' := Aside0.mk H
              clear H
              go_wp2
              go_loopg [10] kj72 (fun kq v10 w' => ∃ (x10_4 : Int) (x191000_4 : List Int) (x191001_4 : List Int) (x191003_4 : Int) (x191004_4 : Int) (u191000 : Value) (u191001 : Value), v10 = .int .i64 x10_4 ∧ Aside0 (spliceref12_Plan.l2 kq x10_4 l0_0 l0_1 a0_2 x191000_4 x191001_4 x191002_2 x191003_4 x191004_4 = some (r1, r2, r3, r4, r5, r6)) ∧ Aside0 (kq ≤ kj72) ∧ Aside0 (Kd.R (Kd.int .i64) 3 w' w.heap.size (fun k_ => some k_ ≠ (u191001 : Value).ownBlock) u191000 x191000_4) ∧ Aside0 (Kd.R (Kd.int .i64) 3 w' w.heap.size (fun k_ => some k_ ≠ (u191000 : Value).ownBlock) u191001 x191001_4) ∧ Aside0 (w'.heap[gb182]? = some (.cells #[(.slice A0_0 l0_0.length c0_0), (.slice A0_1 l0_1.length c0_1), .int .i64 a0_2] 25 (0, 0))) ∧ Aside0 (w'.heap[gb183]? = some (.cells #[(.slice none 0 0), (.slice none 0 0), .int .i64 x184002_2, .int .i64 x184003_2, .int .i64 x184004_2] 30 (0, 0))) ∧ Aside0 (w'.heap[gb190]? = some (.cells #[u191000, u191001, .int .i64 x191002_2, .int .i64 x191003_4, .int .i64 x191004_4] 30 (0, 0))) ∧ Aside0 (Below w.heap.size w w'))
              case atStart => exact ⟨(0), (x191000_2), (x191001_2), (0), (0), (u191000), (u191001), (by first | rfl | (simp; done) | (simp [*]; done)), H', ⟨Nat.le_refl _⟩, ⟨by (with_reducible repeat (first | apply Kd.R_alloc | apply Kd.R_drewN | apply Kd.R_drew)); exact HO_191000.out⟩, ⟨by (with_reducible repeat (first | apply Kd.R_alloc | apply Kd.R_drewN | apply Kd.R_drew)); exact HO_191001.out⟩, ⟨by (with_reducible repeat (first | refine blk_drewN ?_ _ | refine blk_drew ?_ | refine blk_alloc ?_ _)); exact BK182.out⟩, ⟨by (with_reducible repeat (first | refine blk_drewN ?_ _ | refine blk_drew ?_ | refine blk_alloc ?_ _)); exact BK183.out⟩, ⟨by (with_reducible repeat (first | refine blk_drewN ?_ _ | refine blk_drew ?_ | refine blk_alloc ?_ _)); exact BK190.out⟩, ⟨by repeat (first | (with_reducible first | exact HB.out | apply below_alloc | apply pw_below_drewN | apply below_drew1 | refine below_set ?_ GE182.out | refine below_set ?_ GE183.out | refine below_set ?_ GE190.out) | exact HB.out)⟩⟩
              case round =>
               clear H'
               (try clear c1); (try clear p1); (try clear q1); (try clear hx1); (try clear c2); (try clear p2); (try clear q2); (try clear hx2); (try clear hf2); (try clear c3); (try clear c4); (try clear c5); (try clear p5); (try clear q5); (try clear hx5); (try clear hf5); (try clear c6); (try clear p6); (try clear c7); (try clear c8); (try clear c9); (try clear c19); (try clear p19); (try clear q19); (try clear hx19); (try clear c25); (try clear c25b0); (try clear c26); (try clear c26b0); (try clear c27); (try clear c27b0); (try clear p28); (try clear q28); (try clear hx28); (try clear hf28); (try clear c29); (try clear c30); (try clear c32); (try clear c36); (try clear c37); (try clear c39); (try clear c39b0); (try clear c40); (try clear c40b0); (try clear c41); (try clear c41b0); (try clear c42); (try clear c43); (try clear c45); (try clear c45b0); (try clear c46); (try clear c47); (try clear c49); (try clear c51); (try clear c51b0); (try clear c52); (try clear c52b0); (try clear c53); (try clear c53b0); (try clear c53b1); (try clear p54); (try clear q54); (try clear hx54); (try clear hf54); (try clear c55); (try clear c55b0); (try clear c56); (try clear c57); (try clear c59); (try clear p64); (try clear c66); (try clear c67); (try clear c69); (try clear c74); (try clear c74b0); (try clear c75); (try clear c76); (try clear c78); (try clear c78b0); (try clear c79); (try clear c80); (try clear c82); (try clear c82b0); (try clear c83); (try clear c83b0); (try clear c84); (try clear c85); (try clear c87); (try clear c90); (try clear c91); (try clear c92); (try clear hcz31_0); (try clear hcz31_1); (try clear hcz31_2); (try clear hcz33_0); (try clear hcz33_1); (try clear hcz33_2); (try clear hcz33_3); (try clear hcz33_4); (try clear hcz38_0); (try clear hcz38_1); (try clear hcz38_2); (try clear hcz44_0); (try clear hcz44_1); (try clear hcz44_2); (try clear hcz44_3); (try clear hcz44_4); (try clear hcz48_0); (try clear hcz48_1); (try clear hcz48_2); (try clear hcz50_0); (try clear hcz50_1)
               (try clear hcz50_2); (try clear hcz50_3); (try clear hcz50_4); (try clear hcz58_0); (try clear hcz58_1); (try clear hcz58_2); (try clear hcz60_0); (try clear hcz60_1); (try clear hcz60_2); (try clear hcz60_3); (try clear hcz60_4); (try clear hcz68_0); (try clear hcz68_1); (try clear hcz68_2); (try clear hcz70_0); (try clear hcz70_1); (try clear hcz70_2); (try clear hcz70_3); (try clear hcz70_4); (try clear hcz72_0); (try clear hcz72_1); (try clear hcz72_2); (try clear hcz72_3); (try clear hcz72_4); (try clear hcz77_0); (try clear hcz77_1); (try clear hcz77_2); (try clear hcz81_0); (try clear hcz81_1); (try clear hcz81_2); (try clear hcz86_0); (try clear hcz86_1); (try clear hcz86_2); (try clear hcz88_0); (try clear hcz88_1); (try clear hcz88_2); (try clear hcz88_3); (try clear hcz88_4); (try clear hcz93_0); (try clear hcz93_1); (try clear hcz93_2); (try clear hcz93_3); (try clear hcz93_4); (try clear hfz31_0); (try clear hfz31_1); (try clear hfz31_2); (try clear hfz33_0); (try clear hfz33_1); (try clear hfz33_2); (try clear hfz33_3); (try clear hfz33_4); (try clear hfz38_0); (try clear hfz38_1); (try clear hfz38_2); (try clear hfz44_0); (try clear hfz44_1); (try clear hfz44_2); (try clear hfz44_3); (try clear hfz44_4); (try clear hfz48_0); (try clear hfz48_1); (try clear hfz48_2); (try clear hfz50_0); (try clear hfz50_1); (try clear hfz50_2); (try clear hfz50_3); (try clear hfz50_4); (try clear hfz58_0); (try clear hfz58_1); (try clear hfz58_2); (try clear hfz60_0); (try clear hfz60_1); (try clear hfz60_2); (try clear hfz60_3); (try clear hfz60_4); (try clear hfz68_0); (try clear hfz68_1); (try clear hfz68_2); (try clear hfz70_0); (try clear hfz70_1); (try clear hfz70_2); (try clear hfz70_3); (try clear hfz70_4); (try clear hfz72_0); (try clear hfz72_1); (try clear hfz72_2); (try clear hfz72_3); (try clear hfz72_4); (try clear hfz77_0); (try clear hfz77_1); (try clear hfz77_2); (try clear hfz81_0); (try clear hfz81_1); (try clear hfz81_2); (try clear hfz86_0); (try clear hfz86_1)
               (try clear hfz86_2); (try clear hfz88_0); (try clear hfz88_1); (try clear hfz88_2); (try clear hfz88_3); (try clear hfz88_4); (try clear hfz93_0); (try clear hfz93_1); (try clear hfz93_2); (try clear hfz93_3); (try clear hfz93_4); (try clear hx192_0); (try clear hx193_0); (try clear hx195_0); (try clear hx195_1); (try clear hx195_2); (try clear hx195_3); (try clear hx195_4); (try clear hx196_0); (try clear hx28_0); (try clear hx54_0); (try clear p1); (try clear p19); (try clear p192); (try clear p193); (try clear p195); (try clear p196); (try clear p2); (try clear p28); (try clear p5); (try clear p54); (try clear p6); (try clear p64); (try clear q1); (try clear q19); (try clear q192); (try clear q193); (try clear q195); (try clear q196); (try clear q2); (try clear q28); (try clear q5); (try clear q54)
               obtain ⟨x10_4, x191000_4, x191001_4, x191003_4, x191004_4, u191000, u191001, rfl, HA, HK4, HO_191000, HO_191001, BK182, BK183, BK190, HB⟩ := hrel
               cases gk with
               | zero => exact absurd HA.out (by simp [spliceref12_Plan.l2])
               | succ k4 =>
                have H := HA.out
                clear HA
                simp only [spliceref12_Plan.l2] at H
                by_cases c94 : x10_4 < 2
                ·
                 rw [if_pos c94] at H
                 have c94b0 : decide (x10_4 < 2) = true := decide_eq_true c94
                 clear c94
                 have HC95 := Aside0.mk H
                 clear H
                 go_upto_if 103 with (fail)
                 go_cut [] (fun wc => ∃ (kq : Nat) (x191003_94 : Int) (x191004_94 : Int), Aside0 (spliceref12_Plan.j5 kq x10_4 l0_0 l0_1 a0_2 x191000_4 x191001_4 x191002_2 x191003_94 x191004_94 = some (r1, r2, r3, r4, r5, r6)) ∧ Aside0 (kq ≤ k4) ∧ Aside0 (Kd.R (Kd.int .i64) 3 wc w.heap.size (fun k_ => some k_ ≠ (u191001 : Value).ownBlock) u191000 x191000_4) ∧ Aside0 (Kd.R (Kd.int .i64) 3 wc w.heap.size (fun k_ => some k_ ≠ (u191000 : Value).ownBlock) u191001 x191001_4) ∧ Aside0 (wc.heap[gb182]? = some (.cells #[(.slice A0_0 l0_0.length c0_0), (.slice A0_1 l0_1.length c0_1), .int .i64 a0_2] 25 (0, 0))) ∧ Aside0 (wc.heap[gb183]? = some (.cells #[(.slice none 0 0), (.slice none 0 0), .int .i64 x184002_2, .int .i64 x184003_2, .int .i64 x184004_2] 30 (0, 0))) ∧ Aside0 (wc.heap[gb190]? = some (.cells #[u191000, u191001, .int .i64 x191002_2, .int .i64 x191003_94, .int .i64 x191004_94] 30 (0, 0))) ∧ Aside0 (Below w.heap.size w wc))
                 case first =>
                  have H := HC95.out
                  clear HC95
                  by_cases c96 : x10_4 = 1
                  ·
                   rw [if_pos c96] at H
                   have c96b0 : (x10_4 == 1) = true := beq_iff_eq.mpr c96
                   have c96b1 : (x10_4 != 1) = false := bne_eq_false_iff_eq.mpr c96
                   clear c96
                   (first | (generalize hb_ : (x10_4 == 1) = bb_ at *; subst c96b0; have c96b0 := hb_; clear hb_) | rw [c96b0] | (simp only [i64_w, i32_w]; rw [c96b0]) | skip)
                   have H' := Aside0.mk H
                   clear H
                   go_wp2
                   go_loopg [] k4 (fun kq w' => ∃ (x191003_5 : Int), Aside0 (spliceref12_Plan.l3 kq x10_4 l0_0 l0_1 a0_2 x191000_4 x191001_4 x191002_2 x191003_5 x191004_4 = some (r1, r2, r3, r4, r5, r6)) ∧ Aside0 (kq ≤ k4) ∧ Aside0 (Kd.R (Kd.int .i64) 3 w' w.heap.size (fun k_ => some k_ ≠ (u191001 : Value).ownBlock) u191000 x191000_4) ∧ Aside0 (Kd.R (Kd.int .i64) 3 w' w.heap.size (fun k_ => some k_ ≠ (u191000 : Value).ownBlock) u191001 x191001_4) ∧ Aside0 (w'.heap[gb182]? = some (.cells #[(.slice A0_0 l0_0.length c0_0), (.slice A0_1 l0_1.length c0_1), .int .i64 a0_2] 25 (0, 0))) ∧ Aside0 (w'.heap[gb183]? = some (.cells #[(.slice none 0 0), (.slice none 0 0), .int .i64 x184002_2, .int .i64 x184003_2, .int .i64 x184004_2] 30 (0, 0))) ∧ Aside0 (w'.heap[gb190]? = some (.cells #[u191000, u191001, .int .i64 x191002_2, .int .i64 x191003_5, .int .i64 x191004_4] 30 (0, 0))) ∧ Aside0 (Below w.heap.size w w'))
                   case atStart => exact ⟨(x191003_4), H', ⟨Nat.le_refl _⟩, ⟨by (with_reducible repeat (first | apply Kd.R_alloc | apply Kd.R_drewN | apply Kd.R_drew)); exact HO_191000.out⟩, ⟨by (with_reducible repeat (first | apply Kd.R_alloc | apply Kd.R_drewN | apply Kd.R_drew)); exact HO_191001.out⟩, ⟨by (with_reducible repeat (first | refine blk_drewN ?_ _ | refine blk_drew ?_ | refine blk_alloc ?_ _)); exact BK182.out⟩, ⟨by (with_reducible repeat (first | refine blk_drewN ?_ _ | refine blk_drew ?_ | refine blk_alloc ?_ _)); exact BK183.out⟩, ⟨by (with_reducible repeat (first | refine blk_drewN ?_ _ | refine blk_drew ?_ | refine blk_alloc ?_ _)); exact BK190.out⟩, ⟨by repeat (first | (with_reducible first | exact HB.out | apply below_alloc | apply pw_below_drewN | apply below_drew1 | refine below_set ?_ GE182.out | refine below_set ?_ GE183.out | refine below_set ?_ GE190.out) | exact HB.out)⟩⟩
                   case round =>
                    clear H'
                    (try clear c1); (try clear p1); (try clear q1); (try clear hx1); (try clear c2); (try clear p2); (try clear q2); (try clear hx2); (try clear hf2); (try clear c3); (try clear c4); (try clear c5); (try clear p5); (try clear q5); (try clear hx5); (try clear hf5); (try clear c6); (try clear p6); (try clear c7); (try clear c8); (try clear c9); (try clear c19); (try clear p19); (try clear q19); (try clear hx19); (try clear c25); (try clear c25b0); (try clear c26); (try clear c26b0); (try clear c27); (try clear c27b0); (try clear p28); (try clear q28); (try clear hx28); (try clear hf28); (try clear c29); (try clear c30); (try clear c32); (try clear c36); (try clear c37); (try clear c39); (try clear c39b0); (try clear c40); (try clear c40b0); (try clear c41); (try clear c41b0); (try clear c42); (try clear c43); (try clear c45); (try clear c45b0); (try clear c46); (try clear c47); (try clear c49); (try clear c51); (try clear c51b0); (try clear c52); (try clear c52b0); (try clear c53); (try clear c53b0); (try clear c53b1); (try clear p54); (try clear q54); (try clear hx54); (try clear hf54); (try clear c55); (try clear c55b0); (try clear c56); (try clear c57); (try clear c59); (try clear p64); (try clear c66); (try clear c67); (try clear c69); (try clear c74); (try clear c74b0); (try clear c75); (try clear c76); (try clear c78); (try clear c78b0); (try clear c79); (try clear c80); (try clear c82); (try clear c82b0); (try clear c83); (try clear c83b0); (try clear c84); (try clear c85); (try clear c87); (try clear c90); (try clear c91); (try clear c92); (try clear c94); (try clear c94b0); (try clear c96); (try clear c96b0); (try clear c96b1); (try clear hcz31_0); (try clear hcz31_1); (try clear hcz31_2); (try clear hcz33_0); (try clear hcz33_1); (try clear hcz33_2); (try clear hcz33_3); (try clear hcz33_4); (try clear hcz38_0); (try clear hcz38_1); (try clear hcz38_2); (try clear hcz44_0); (try clear hcz44_1); (try clear hcz44_2); (try clear hcz44_3); (try clear hcz44_4); (try clear hcz48_0)
                    (try clear hcz48_1); (try clear hcz48_2); (try clear hcz50_0); (try clear hcz50_1); (try clear hcz50_2); (try clear hcz50_3); (try clear hcz50_4); (try clear hcz58_0); (try clear hcz58_1); (try clear hcz58_2); (try clear hcz60_0); (try clear hcz60_1); (try clear hcz60_2); (try clear hcz60_3); (try clear hcz60_4); (try clear hcz68_0); (try clear hcz68_1); (try clear hcz68_2); (try clear hcz70_0); (try clear hcz70_1); (try clear hcz70_2); (try clear hcz70_3); (try clear hcz70_4); (try clear hcz72_0); (try clear hcz72_1); (try clear hcz72_2); (try clear hcz72_3); (try clear hcz72_4); (try clear hcz77_0); (try clear hcz77_1); (try clear hcz77_2); (try clear hcz81_0); (try clear hcz81_1); (try clear hcz81_2); (try clear hcz86_0); (try clear hcz86_1); (try clear hcz86_2); (try clear hcz88_0); (try clear hcz88_1); (try clear hcz88_2); (try clear hcz88_3); (try clear hcz88_4); (try clear hcz93_0); (try clear hcz93_1); (try clear hcz93_2); (try clear hcz93_3); (try clear hcz93_4); (try clear hfz31_0); (try clear hfz31_1); (try clear hfz31_2); (try clear hfz33_0); (try clear hfz33_1); (try clear hfz33_2); (try clear hfz33_3); (try clear hfz33_4); (try clear hfz38_0); (try clear hfz38_1); (try clear hfz38_2); (try clear hfz44_0); (try clear hfz44_1); (try clear hfz44_2); (try clear hfz44_3); (try clear hfz44_4); (try clear hfz48_0); (try clear hfz48_1); (try clear hfz48_2); (try clear hfz50_0); (try clear hfz50_1); (try clear hfz50_2); (try clear hfz50_3); (try clear hfz50_4); (try clear hfz58_0); (try clear hfz58_1); (try clear hfz58_2); (try clear hfz60_0); (try clear hfz60_1); (try clear hfz60_2); (try clear hfz60_3); (try clear hfz60_4); (try clear hfz68_0); (try clear hfz68_1); (try clear hfz68_2); (try clear hfz70_0); (try clear hfz70_1); (try clear hfz70_2); (try clear hfz70_3); (try clear hfz70_4); (try clear hfz72_0); (try clear hfz72_1); (try clear hfz72_2); (try clear hfz72_3); (try clear hfz72_4); (try clear hfz77_0); (try clear hfz77_1); (try clear hfz77_2); (try clear hfz81_0)
                    (try clear hfz81_1); (try clear hfz81_2); (try clear hfz86_0); (try clear hfz86_1); (try clear hfz86_2); (try clear hfz88_0); (try clear hfz88_1); (try clear hfz88_2); (try clear hfz88_3); (try clear hfz88_4); (try clear hfz93_0); (try clear hfz93_1); (try clear hfz93_2); (try clear hfz93_3); (try clear hfz93_4); (try clear hx192_0); (try clear hx193_0); (try clear hx195_0); (try clear hx195_1); (try clear hx195_2); (try clear hx195_3); (try clear hx195_4); (try clear hx196_0); (try clear hx28_0); (try clear hx54_0); (try clear p1); (try clear p19); (try clear p192); (try clear p193); (try clear p195); (try clear p196); (try clear p2); (try clear p28); (try clear p5); (try clear p54); (try clear p6); (try clear p64); (try clear q1); (try clear q19); (try clear q192); (try clear q193); (try clear q195); (try clear q196); (try clear q2); (try clear q28); (try clear q5); (try clear q54)
                    obtain ⟨x191003_5, HA, HK5, HO_191000, HO_191001, BK182, BK183, BK190, HB⟩ := hrel
                    cases gk with
                    | zero => exact absurd HA.out (by simp [spliceref12_Plan.l3])
                    | succ k5 =>
                     have H := HA.out
                     clear HA
                     simp only [spliceref12_Plan.l3] at H
                     by_cases c97 : (Int.tmod x191003_5 16) = 0
                     ·
                      rw [if_pos c97] at H
                      have c97b0 : ((Int.tmod x191003_5 16) == 0) = true := beq_iff_eq.mpr c97
                      have c97b1 : ((Int.tmod x191003_5 16) != 0) = false := bne_eq_false_iff_eq.mpr c97
                      clear c97
                      have H' := Aside0.mk H
                      clear H
                      have hnb98 := NB190_182.out
                      have hnc98 := NB182_190.out
                      have hnb99 := NB190_183.out
                      have hnc99 := NB183_190.out
                      have hcz100_0 : wr.cell? ⟨gb190, 0, none⟩ = some (u191000) := (blk_cell BK190.out 0).trans rfl
                      have hcz100_1 : wr.cell? ⟨gb190, 1, none⟩ = some (u191001) := (blk_cell BK190.out 1).trans rfl
                      have hcz100_2 : wr.cell? ⟨gb190, 2, none⟩ = some (.int .i64 x191002_2) := (blk_cell BK190.out 2).trans rfl
                      have hcz100_3 : wr.cell? ⟨gb190, 3, none⟩ = some (.int .i64 x191003_5) := (blk_cell BK190.out 3).trans rfl
                      have hcz100_4 : wr.cell? ⟨gb190, 4, none⟩ = some (.int .i64 x191004_4) := (blk_cell BK190.out 4).trans rfl
                      have hfz100_0 := blk_frozen BK190.out 0
                      have hfz100_1 := blk_frozen BK190.out 1
                      have hfz100_2 := blk_frozen BK190.out 2
                      have hfz100_3 := blk_frozen BK190.out 3
                      have hfz100_4 := blk_frozen BK190.out 4
                      go_wp2
                      go_meet
                      case rel => exact ⟨_, (x191003_5), (x191003_5), H', ⟨by have := HK1.out; have := HK2.out; have := HJ72.out; have := HK4.out; have := HK5.out; first | omega | exact Nat.le_refl _⟩, ⟨by (with_reducible repeat (first | apply Kd.R_alloc | apply Kd.R_drewN | apply Kd.R_drew)); exact Kd.R_mono (Kd.R_far (p := ⟨gb190, 4, none⟩) (Kd.R_types HO_191000.out BK190.out (by decide)) (fun _ hk => hk.2) (.int .i64 x191003_5)) (fun _ hk => hk.1)⟩, ⟨by (with_reducible repeat (first | apply Kd.R_alloc | apply Kd.R_drewN | apply Kd.R_drew)); exact Kd.R_mono (Kd.R_far (p := ⟨gb190, 4, none⟩) (Kd.R_types HO_191001.out BK190.out (by decide)) (fun _ hk => hk.2) (.int .i64 x191003_5)) (fun _ hk => hk.1)⟩, ⟨by (with_reducible repeat (first | refine blk_drewN ?_ _ | refine blk_drew ?_ | refine blk_alloc ?_ _)); refine blk_far ?_ NB182_190.out _; (with_reducible repeat (first | refine blk_drewN ?_ _ | refine blk_drew ?_ | refine blk_alloc ?_ _)); exact BK182.out⟩, ⟨by (with_reducible repeat (first | refine blk_drewN ?_ _ | refine blk_drew ?_ | refine blk_alloc ?_ _)); refine blk_far ?_ NB183_190.out _; (with_reducible repeat (first | refine blk_drewN ?_ _ | refine blk_drew ?_ | refine blk_alloc ?_ _)); exact BK183.out⟩, ⟨by (with_reducible repeat (first | refine blk_drewN ?_ _ | refine blk_drew ?_ | refine blk_alloc ?_ _)); refine blk_put (cs := #[u191000, u191001, .int .i64 x191002_2, .int .i64 x191003_5, .int .i64 x191004_4]) ?_ 4 _ rfl; (with_reducible repeat (first | refine blk_drewN ?_ _ | refine blk_drew ?_ | refine blk_alloc ?_ _)); exact BK190.out⟩, ⟨by repeat (first | (with_reducible first | exact HB.out | apply below_alloc | apply pw_below_drewN | apply below_drew1 | refine below_set ?_ GE182.out | refine below_set ?_ GE183.out | refine below_set ?_ GE190.out) | exact HB.out)⟩⟩
                     ·
                      rw [if_neg c97] at H
                      have c97b0 : ((Int.tmod x191003_5 16) == 0) = false := beq_eq_false_iff_ne.mpr c97
                      have c97b1 : ((Int.tmod x191003_5 16) != 0) = true := bne_iff_ne.mpr c97
                      have H' := Aside0.mk H
                      clear H
                      have hnb101 := NB190_182.out
                      have hnc101 := NB182_190.out
                      have hnb102 := NB190_183.out
                      have hnc102 := NB183_190.out
                      have hcz103_0 : wr.cell? ⟨gb190, 0, none⟩ = some (u191000) := (blk_cell BK190.out 0).trans rfl
                      have hcz103_1 : wr.cell? ⟨gb190, 1, none⟩ = some (u191001) := (blk_cell BK190.out 1).trans rfl
                      have hcz103_2 : wr.cell? ⟨gb190, 2, none⟩ = some (.int .i64 x191002_2) := (blk_cell BK190.out 2).trans rfl
                      have hcz103_3 : wr.cell? ⟨gb190, 3, none⟩ = some (.int .i64 x191003_5) := (blk_cell BK190.out 3).trans rfl
                      have hcz103_4 : wr.cell? ⟨gb190, 4, none⟩ = some (.int .i64 x191004_4) := (blk_cell BK190.out 4).trans rfl
                      have hfz103_0 := blk_frozen BK190.out 0
                      have hfz103_1 := blk_frozen BK190.out 1
                      have hfz103_2 := blk_frozen BK190.out 2
                      have hfz103_3 := blk_frozen BK190.out 3
                      have hfz103_4 := blk_frozen BK190.out 4
                      go_wp2
                      go_roundg k5
                      case measure => have := HK1.out; have := HK2.out; have := HJ72.out; have := HK4.out; have := HK5.out; omega
                      case rel => exact ⟨(wrap64 (x191003_5 + 1)), H', ⟨by have := HK1.out; have := HK2.out; have := HJ72.out; have := HK4.out; have := HK5.out; omega⟩, ⟨by (with_reducible repeat (first | apply Kd.R_alloc | apply Kd.R_drewN | apply Kd.R_drew)); exact Kd.R_mono (Kd.R_far (p := ⟨gb190, 3, none⟩) (Kd.R_types HO_191000.out BK190.out (by decide)) (fun _ hk => hk.2) (.int .i64 (wrap64 (x191003_5 + 1)))) (fun _ hk => hk.1)⟩, ⟨by (with_reducible repeat (first | apply Kd.R_alloc | apply Kd.R_drewN | apply Kd.R_drew)); exact Kd.R_mono (Kd.R_far (p := ⟨gb190, 3, none⟩) (Kd.R_types HO_191001.out BK190.out (by decide)) (fun _ hk => hk.2) (.int .i64 (wrap64 (x191003_5 + 1)))) (fun _ hk => hk.1)⟩, ⟨by (with_reducible repeat (first | refine blk_drewN ?_ _ | refine blk_drew ?_ | refine blk_alloc ?_ _)); refine blk_far ?_ NB182_190.out _; (with_reducible repeat (first | refine blk_drewN ?_ _ | refine blk_drew ?_ | refine blk_alloc ?_ _)); exact BK182.out⟩, ⟨by (with_reducible repeat (first | refine blk_drewN ?_ _ | refine blk_drew ?_ | refine blk_alloc ?_ _)); refine blk_far ?_ NB183_190.out _; (with_reducible repeat (first | refine blk_drewN ?_ _ | refine blk_drew ?_ | refine blk_alloc ?_ _)); exact BK183.out⟩, ⟨by (with_reducible repeat (first | refine blk_drewN ?_ _ | refine blk_drew ?_ | refine blk_alloc ?_ _)); refine blk_put (cs := #[u191000, u191001, .int .i64 x191002_2, .int .i64 x191003_5, .int .i64 x191004_4]) ?_ 3 _ rfl; (with_reducible repeat (first | refine blk_drewN ?_ _ | refine blk_drew ?_ | refine blk_alloc ?_ _)); exact BK190.out⟩, ⟨by repeat (first | (with_reducible first | exact HB.out | apply below_alloc | apply pw_below_drewN | apply below_drew1 | refine below_set ?_ GE182.out | refine below_set ?_ GE183.out | refine below_set ?_ GE190.out) | exact HB.out)⟩⟩
                  ·
                   rw [if_neg c96] at H
                   have c96b0 : (x10_4 == 1) = false := beq_eq_false_iff_ne.mpr c96
                   have c96b1 : (x10_4 != 1) = true := bne_iff_ne.mpr c96
                   (first | (generalize hb_ : (x10_4 == 1) = bb_ at *; subst c96b0; have c96b0 := hb_; clear hb_) | rw [c96b0] | (simp only [i64_w, i32_w]; rw [c96b0]) | skip)
                   have H' := Aside0.mk H
                   clear H
                   go_wp2
                   go_meet
                   case rel => exact ⟨_, (x191003_4), (x191004_4), H', ⟨by have := HK1.out; have := HK2.out; have := HJ72.out; have := HK4.out; first | omega | exact Nat.le_refl _⟩, ⟨by (with_reducible repeat (first | apply Kd.R_alloc | apply Kd.R_drewN | apply Kd.R_drew)); exact HO_191000.out⟩, ⟨by (with_reducible repeat (first | apply Kd.R_alloc | apply Kd.R_drewN | apply Kd.R_drew)); exact HO_191001.out⟩, ⟨by (with_reducible repeat (first | refine blk_drewN ?_ _ | refine blk_drew ?_ | refine blk_alloc ?_ _)); exact BK182.out⟩, ⟨by (with_reducible repeat (first | refine blk_drewN ?_ _ | refine blk_drew ?_ | refine blk_alloc ?_ _)); exact BK183.out⟩, ⟨by (with_reducible repeat (first | refine blk_drewN ?_ _ | refine blk_drew ?_ | refine blk_alloc ?_ _)); exact BK190.out⟩, ⟨by repeat (first | (with_reducible first | exact HB.out | apply below_alloc | apply pw_below_drewN | apply below_drew1 | refine below_set ?_ GE182.out | refine below_set ?_ GE183.out | refine below_set ?_ GE190.out) | exact HB.out)⟩⟩
                 case rest =>
                  clear HC95
                  (try clear c1); (try clear p1); (try clear q1); (try clear hx1); (try clear c2); (try clear p2); (try clear q2); (try clear hx2); (try clear hf2); (try clear c3); (try clear c4); (try clear c5); (try clear p5); (try clear q5); (try clear hx5); (try clear hf5); (try clear c6); (try clear p6); (try clear c7); (try clear c8); (try clear c9); (try clear c10); (try clear c19); (try clear p19); (try clear q19); (try clear hx19); (try clear c25); (try clear c25b0); (try clear c26); (try clear c26b0); (try clear c27); (try clear c27b0); (try clear p28); (try clear q28); (try clear hx28); (try clear hf28); (try clear c29); (try clear c30); (try clear c32); (try clear c36); (try clear c37); (try clear c39); (try clear c39b0); (try clear c40); (try clear c40b0); (try clear c41); (try clear c41b0); (try clear c42); (try clear c43); (try clear c45); (try clear c45b0); (try clear c46); (try clear c47); (try clear c49); (try clear c51); (try clear c51b0); (try clear c52); (try clear c52b0); (try clear c53); (try clear c53b0); (try clear c53b1); (try clear p54); (try clear q54); (try clear hx54); (try clear hf54); (try clear c55); (try clear c55b0); (try clear c56); (try clear c57); (try clear c59); (try clear p64); (try clear c66); (try clear c67); (try clear c69); (try clear c74); (try clear c74b0); (try clear c75); (try clear c76); (try clear c78); (try clear c78b0); (try clear c79); (try clear c80); (try clear c82); (try clear c82b0); (try clear c83); (try clear c83b0); (try clear c84); (try clear c85); (try clear c87); (try clear c90); (try clear c91); (try clear c92); (try clear c94); (try clear c94b0); (try clear c96); (try clear c96b0); (try clear c96b1); (try clear c97); (try clear c97b0); (try clear c97b1); (try clear c98); (try clear c99); (try clear c101); (try clear c102); (try clear hcz100_0); (try clear hcz100_1); (try clear hcz100_2); (try clear hcz100_3); (try clear hcz100_4); (try clear hcz103_0); (try clear hcz103_1); (try clear hcz103_2); (try clear hcz103_3); (try clear hcz103_4)
                  (try clear hcz31_0); (try clear hcz31_1); (try clear hcz31_2); (try clear hcz33_0); (try clear hcz33_1); (try clear hcz33_2); (try clear hcz33_3); (try clear hcz33_4); (try clear hcz38_0); (try clear hcz38_1); (try clear hcz38_2); (try clear hcz44_0); (try clear hcz44_1); (try clear hcz44_2); (try clear hcz44_3); (try clear hcz44_4); (try clear hcz48_0); (try clear hcz48_1); (try clear hcz48_2); (try clear hcz50_0); (try clear hcz50_1); (try clear hcz50_2); (try clear hcz50_3); (try clear hcz50_4); (try clear hcz58_0); (try clear hcz58_1); (try clear hcz58_2); (try clear hcz60_0); (try clear hcz60_1); (try clear hcz60_2); (try clear hcz60_3); (try clear hcz60_4); (try clear hcz68_0); (try clear hcz68_1); (try clear hcz68_2); (try clear hcz70_0); (try clear hcz70_1); (try clear hcz70_2); (try clear hcz70_3); (try clear hcz70_4); (try clear hcz72_0); (try clear hcz72_1); (try clear hcz72_2); (try clear hcz72_3); (try clear hcz72_4); (try clear hcz77_0); (try clear hcz77_1); (try clear hcz77_2); (try clear hcz81_0); (try clear hcz81_1); (try clear hcz81_2); (try clear hcz86_0); (try clear hcz86_1); (try clear hcz86_2); (try clear hcz88_0); (try clear hcz88_1); (try clear hcz88_2); (try clear hcz88_3); (try clear hcz88_4); (try clear hcz93_0); (try clear hcz93_1); (try clear hcz93_2); (try clear hcz93_3); (try clear hcz93_4); (try clear hfz100_0); (try clear hfz100_1); (try clear hfz100_2); (try clear hfz100_3); (try clear hfz100_4); (try clear hfz103_0); (try clear hfz103_1); (try clear hfz103_2); (try clear hfz103_3); (try clear hfz103_4); (try clear hfz31_0); (try clear hfz31_1); (try clear hfz31_2); (try clear hfz33_0); (try clear hfz33_1); (try clear hfz33_2); (try clear hfz33_3); (try clear hfz33_4); (try clear hfz38_0); (try clear hfz38_1); (try clear hfz38_2); (try clear hfz44_0); (try clear hfz44_1); (try clear hfz44_2); (try clear hfz44_3); (try clear hfz44_4); (try clear hfz48_0); (try clear hfz48_1); (try clear hfz48_2); (try clear hfz50_0); (try clear hfz50_1)
                  (try clear hfz50_2); (try clear hfz50_3); (try clear hfz50_4); (try clear hfz58_0); (try clear hfz58_1); (try clear hfz58_2); (try clear hfz60_0); (try clear hfz60_1); (try clear hfz60_2); (try clear hfz60_3); (try clear hfz60_4); (try clear hfz68_0); (try clear hfz68_1); (try clear hfz68_2); (try clear hfz70_0); (try clear hfz70_1); (try clear hfz70_2); (try clear hfz70_3); (try clear hfz70_4); (try clear hfz72_0); (try clear hfz72_1); (try clear hfz72_2); (try clear hfz72_3); (try clear hfz72_4); (try clear hfz77_0); (try clear hfz77_1); (try clear hfz77_2); (try clear hfz81_0); (try clear hfz81_1); (try clear hfz81_2); (try clear hfz86_0); (try clear hfz86_1); (try clear hfz86_2); (try clear hfz88_0); (try clear hfz88_1); (try clear hfz88_2); (try clear hfz88_3); (try clear hfz88_4); (try clear hfz93_0); (try clear hfz93_1); (try clear hfz93_2); (try clear hfz93_3); (try clear hfz93_4); (try clear hx192_0); (try clear hx193_0); (try clear hx195_0); (try clear hx195_1); (try clear hx195_2); (try clear hx195_3); (try clear hx195_4); (try clear hx196_0); (try clear hx28_0); (try clear hx54_0); (try clear p1); (try clear p19); (try clear p192); (try clear p193); (try clear p195); (try clear p196); (try clear p2); (try clear p28); (try clear p5); (try clear p54); (try clear p6); (try clear p64); (try clear q1); (try clear q19); (try clear q192); (try clear q193); (try clear q195); (try clear q196); (try clear q2); (try clear q28); (try clear q5); (try clear q54)
                  obtain ⟨kq, x191003_94, x191004_94, HA, HJ94, HO_191000, HO_191001, BK182, BK183, BK190, HB⟩ := hcut
                  cases kq with
                  | zero => exact absurd HA.out (by simp [spliceref12_Plan.j5])
                  | succ kj94 =>
                   have H := HA.out
                   clear HA
                   simp only [spliceref12_Plan.j5] at H
                   have H' := Aside0.mk H
                   clear H
                   go_wp2
                   go_loopg [11] kj94 (fun kq v11 w' => ∃ (x11_6 : Int) (x191000_6 : List Int) (x191001_6 : List Int) (x191003_6 : Int) (u191000 : Value) (u191001 : Value), v11 = .int .i64 x11_6 ∧ Aside0 (spliceref12_Plan.l4 kq x10_4 x11_6 l0_0 l0_1 a0_2 x191000_6 x191001_6 x191002_2 x191003_6 x191004_94 = some (r1, r2, r3, r4, r5, r6)) ∧ Aside0 (kq ≤ kj94) ∧ Aside0 (Kd.R (Kd.int .i64) 3 w' w.heap.size (fun k_ => some k_ ≠ (u191001 : Value).ownBlock) u191000 x191000_6) ∧ Aside0 (Kd.R (Kd.int .i64) 3 w' w.heap.size (fun k_ => some k_ ≠ (u191000 : Value).ownBlock) u191001 x191001_6) ∧ Aside0 (w'.heap[gb182]? = some (.cells #[(.slice A0_0 l0_0.length c0_0), (.slice A0_1 l0_1.length c0_1), .int .i64 a0_2] 25 (0, 0))) ∧ Aside0 (w'.heap[gb183]? = some (.cells #[(.slice none 0 0), (.slice none 0 0), .int .i64 x184002_2, .int .i64 x184003_2, .int .i64 x184004_2] 30 (0, 0))) ∧ Aside0 (w'.heap[gb190]? = some (.cells #[u191000, u191001, .int .i64 x191002_2, .int .i64 x191003_6, .int .i64 x191004_94] 30 (0, 0))) ∧ Aside0 (Below w.heap.size w w'))
                   case atStart => exact ⟨(0), (x191000_4), (x191001_4), (x191003_94), (u191000), (u191001), (by first | rfl | (simp; done) | (simp [*]; done)), H', ⟨Nat.le_refl _⟩, ⟨by (with_reducible repeat (first | apply Kd.R_alloc | apply Kd.R_drewN | apply Kd.R_drew)); exact HO_191000.out⟩, ⟨by (with_reducible repeat (first | apply Kd.R_alloc | apply Kd.R_drewN | apply Kd.R_drew)); exact HO_191001.out⟩, ⟨by (with_reducible repeat (first | refine blk_drewN ?_ _ | refine blk_drew ?_ | refine blk_alloc ?_ _)); exact BK182.out⟩, ⟨by (with_reducible repeat (first | refine blk_drewN ?_ _ | refine blk_drew ?_ | refine blk_alloc ?_ _)); exact BK183.out⟩, ⟨by (with_reducible repeat (first | refine blk_drewN ?_ _ | refine blk_drew ?_ | refine blk_alloc ?_ _)); exact BK190.out⟩, ⟨by repeat (first | (with_reducible first | exact HB.out | apply below_alloc | apply pw_below_drewN | apply below_drew1 | refine below_set ?_ GE182.out | refine below_set ?_ GE183.out | refine below_set ?_ GE190.out) | exact HB.out)⟩⟩
                   case round =>
                    clear H'
                    (try clear c1); (try clear p1); (try clear q1); (try clear hx1); (try clear c2); (try clear p2); (try clear q2); (try clear hx2); (try clear hf2); (try clear c3); (try clear c4); (try clear c5); (try clear p5); (try clear q5); (try clear hx5); (try clear hf5); (try clear c6); (try clear p6); (try clear c7); (try clear c8); (try clear c9); (try clear c10); (try clear c19); (try clear p19); (try clear q19); (try clear hx19); (try clear c25); (try clear c25b0); (try clear c26); (try clear c26b0); (try clear c27); (try clear c27b0); (try clear p28); (try clear q28); (try clear hx28); (try clear hf28); (try clear c29); (try clear c30); (try clear c32); (try clear c36); (try clear c37); (try clear c39); (try clear c39b0); (try clear c40); (try clear c40b0); (try clear c41); (try clear c41b0); (try clear c42); (try clear c43); (try clear c45); (try clear c45b0); (try clear c46); (try clear c47); (try clear c49); (try clear c51); (try clear c51b0); (try clear c52); (try clear c52b0); (try clear c53); (try clear c53b0); (try clear c53b1); (try clear p54); (try clear q54); (try clear hx54); (try clear hf54); (try clear c55); (try clear c55b0); (try clear c56); (try clear c57); (try clear c59); (try clear p64); (try clear c66); (try clear c67); (try clear c69); (try clear c74); (try clear c74b0); (try clear c75); (try clear c76); (try clear c78); (try clear c78b0); (try clear c79); (try clear c80); (try clear c82); (try clear c82b0); (try clear c83); (try clear c83b0); (try clear c84); (try clear c85); (try clear c87); (try clear c90); (try clear c91); (try clear c92); (try clear c94); (try clear c94b0); (try clear c96); (try clear c96b0); (try clear c96b1); (try clear c97); (try clear c97b0); (try clear c97b1); (try clear c98); (try clear c99); (try clear c101); (try clear c102); (try clear hcz100_0); (try clear hcz100_1); (try clear hcz100_2); (try clear hcz100_3); (try clear hcz100_4); (try clear hcz103_0); (try clear hcz103_1); (try clear hcz103_2); (try clear hcz103_3); (try clear hcz103_4)
                    (try clear hcz31_0); (try clear hcz31_1); (try clear hcz31_2); (try clear hcz33_0); (try clear hcz33_1); (try clear hcz33_2); (try clear hcz33_3); (try clear hcz33_4); (try clear hcz38_0); (try clear hcz38_1); (try clear hcz38_2); (try clear hcz44_0); (try clear hcz44_1); (try clear hcz44_2); (try clear hcz44_3); (try clear hcz44_4); (try clear hcz48_0); (try clear hcz48_1); (try clear hcz48_2); (try clear hcz50_0); (try clear hcz50_1); (try clear hcz50_2); (try clear hcz50_3); (try clear hcz50_4); (try clear hcz58_0); (try clear hcz58_1); (try clear hcz58_2); (try clear hcz60_0); (try clear hcz60_1); (try clear hcz60_2); (try clear hcz60_3); (try clear hcz60_4); (try clear hcz68_0); (try clear hcz68_1); (try clear hcz68_2); (try clear hcz70_0); (try clear hcz70_1); (try clear hcz70_2); (try clear hcz70_3); (try clear hcz70_4); (try clear hcz72_0); (try clear hcz72_1); (try clear hcz72_2); (try clear hcz72_3); (try clear hcz72_4); (try clear hcz77_0); (try clear hcz77_1); (try clear hcz77_2); (try clear hcz81_0); (try clear hcz81_1); (try clear hcz81_2); (try clear hcz86_0); (try clear hcz86_1); (try clear hcz86_2); (try clear hcz88_0); (try clear hcz88_1); (try clear hcz88_2); (try clear hcz88_3); (try clear hcz88_4); (try clear hcz93_0); (try clear hcz93_1); (try clear hcz93_2); (try clear hcz93_3); (try clear hcz93_4); (try clear hfz100_0); (try clear hfz100_1); (try clear hfz100_2); (try clear hfz100_3); (try clear hfz100_4); (try clear hfz103_0); (try clear hfz103_1); (try clear hfz103_2); (try clear hfz103_3); (try clear hfz103_4); (try clear hfz31_0); (try clear hfz31_1); (try clear hfz31_2); (try clear hfz33_0); (try clear hfz33_1); (try clear hfz33_2); (try clear hfz33_3); (try clear hfz33_4); (try clear hfz38_0); (try clear hfz38_1); (try clear hfz38_2); (try clear hfz44_0); (try clear hfz44_1); (try clear hfz44_2); (try clear hfz44_3); (try clear hfz44_4); (try clear hfz48_0); (try clear hfz48_1); (try clear hfz48_2); (try clear hfz50_0); (try clear hfz50_1)
                    (try clear hfz50_2); (try clear hfz50_3); (try clear hfz50_4); (try clear hfz58_0); (try clear hfz58_1); (try clear hfz58_2); (try clear hfz60_0); (try clear hfz60_1); (try clear hfz60_2); (try clear hfz60_3); (try clear hfz60_4); (try clear hfz68_0); (try clear hfz68_1); (try clear hfz68_2); (try clear hfz70_0); (try clear hfz70_1); (try clear hfz70_2); (try clear hfz70_3); (try clear hfz70_4); (try clear hfz72_0); (try clear hfz72_1); (try clear hfz72_2); (try clear hfz72_3); (try clear hfz72_4); (try clear hfz77_0); (try clear hfz77_1); (try clear hfz77_2); (try clear hfz81_0); (try clear hfz81_1); (try clear hfz81_2); (try clear hfz86_0); (try clear hfz86_1); (try clear hfz86_2); (try clear hfz88_0); (try clear hfz88_1); (try clear hfz88_2); (try clear hfz88_3); (try clear hfz88_4); (try clear hfz93_0); (try clear hfz93_1); (try clear hfz93_2); (try clear hfz93_3); (try clear hfz93_4); (try clear hx192_0); (try clear hx193_0); (try clear hx195_0); (try clear hx195_1); (try clear hx195_2); (try clear hx195_3); (try clear hx195_4); (try clear hx196_0); (try clear hx28_0); (try clear hx54_0); (try clear p1); (try clear p19); (try clear p192); (try clear p193); (try clear p195); (try clear p196); (try clear p2); (try clear p28); (try clear p5); (try clear p54); (try clear p6); (try clear p64); (try clear q1); (try clear q19); (try clear q192); (try clear q193); (try clear q195); (try clear q196); (try clear q2); (try clear q28); (try clear q5); (try clear q54)
                    obtain ⟨x11_6, x191000_6, x191001_6, x191003_6, u191000, u191001, rfl, HA, HK6, HO_191000, HO_191001, BK182, BK183, BK190, HB⟩ := hrel
                    cases gk with
                    | zero => exact absurd HA.out (by simp [spliceref12_Plan.l4])
                    | succ k6 =>
                     have H := HA.out
                     clear HA
                     simp only [spliceref12_Plan.l4] at H
                     by_cases c104 : x11_6 < (l0_1.length : Int)
                     ·
                      rw [if_pos c104] at H
                      have c104b0 : decide (x11_6 < (l0_1.length : Int)) = true := decide_eq_true c104
                      clear c104
                      by_cases c105 : 0 ≤ x11_6
                      ·
                       rw [if_pos c105] at H
                       have c105b0 : decide (0 ≤ x11_6) = true := decide_eq_true c105
                       clear c105
                       by_cases c106 : (((rd_T39 l0_1 x11_6).f1) == (x10_4 == 0)) = true
                       ·
                        rw [if_pos c106] at H
                        have c106b0 : (((rd_T39 l0_1 x11_6).f1) == (x10_4 == 0)) = true := c106
                        (try (have c106b1 : decide (((rd_T39 l0_1 x11_6).f1) = (x10_4 == 0)) = true := by simpa using c106))
                        (try (have c106b2 : (((rd_T39 l0_1 x11_6).f1) == (x10_4 == 0)) = true := by simpa using c106))
                        clear c106
                        have H' := Aside0.mk H
                        clear H
                        have hnb107 := NB182_183.out
                        have hnc107 := NB183_182.out
                        have hnb108 := NB182_190.out
                        have hnc108 := NB190_182.out
                        have hcz109_0 : wr.cell? ⟨gb182, 0, none⟩ = some (.slice A0_0 l0_0.length c0_0) := (blk_cell BK182.out 0).trans rfl
                        have hcz109_1 : wr.cell? ⟨gb182, 1, none⟩ = some (.slice A0_1 l0_1.length c0_1) := (blk_cell BK182.out 1).trans rfl
                        have hcz109_2 : wr.cell? ⟨gb182, 2, none⟩ = some (.int .i64 a0_2) := (blk_cell BK182.out 2).trans rfl
                        have hfz109_0 := blk_frozen BK182.out 0
                        have hfz109_1 := blk_frozen BK182.out 1
                        have hfz109_2 := blk_frozen BK182.out 2
                        have p197 : 0 ≤ (x11_6 : Int) := of_decide_eq_true (by first | (with_reducible assumption) | assumption)
                        have q197 : x11_6 < (l0_1.length : Int) := of_decide_eq_true (by first | (with_reducible assumption) | assumption)
                        obtain ⟨ad197, A197_3, c197_3, A197_4, c197_4, e197, hx197_0, hx197_1, hx197_2, hx197_3, hx197_4, hl197_3, hi197_3, hl197_4, hi197_4⟩ := at_T39 HR0_1.out x11_6 p197 q197
                        cases e197
                        replace hx197_0 := (HB.out.cell (World.block_lt_of_cell? w _ hx197_0)).trans hx197_0
                        replace hx197_1 := (HB.out.cell (World.block_lt_of_cell? w _ hx197_1)).trans hx197_1
                        replace hx197_2 := (HB.out.cell (World.block_lt_of_cell? w _ hx197_2)).trans hx197_2
                        replace hx197_3 := (HB.out.cell (World.block_lt_of_cell? w _ hx197_3)).trans hx197_3
                        replace hx197_4 := (HB.out.cell (World.block_lt_of_cell? w _ hx197_4)).trans hx197_4
                        have HR197_3 := Aside0.mk hi197_3
                        have HC197_3 := Aside0.mk hl197_3
                        clear hi197_3 hl197_3
                        have HR197_4 := Aside0.mk hi197_4
                        have HC197_4 := Aside0.mk hl197_4
                        clear hi197_4 hl197_4
                        replace p197 := eq_true p197
                        replace q197 := eq_true q197
                        go_wp2
                        go_loopg [] k6 (fun kq w' => ∃ (x191003_7 : Int), Aside0 (spliceref12_Plan.l5 kq x10_4 x11_6 l0_0 l0_1 a0_2 x191000_6 x191001_6 x191002_2 x191003_7 x191004_94 = some (r1, r2, r3, r4, r5, r6)) ∧ Aside0 (kq ≤ k6) ∧ Aside0 (Kd.R (Kd.int .i64) 3 w' w.heap.size (fun k_ => some k_ ≠ (u191001 : Value).ownBlock) u191000 x191000_6) ∧ Aside0 (Kd.R (Kd.int .i64) 3 w' w.heap.size (fun k_ => some k_ ≠ (u191000 : Value).ownBlock) u191001 x191001_6) ∧ Aside0 (w'.heap[gb182]? = some (.cells #[(.slice A0_0 l0_0.length c0_0), (.slice (some ad197) l0_1.length c0_1), .int .i64 a0_2] 25 (0, 0))) ∧ Aside0 (w'.heap[gb183]? = some (.cells #[(.slice none 0 0), (.slice none 0 0), .int .i64 x184002_2, .int .i64 x184003_2, .int .i64 x184004_2] 30 (0, 0))) ∧ Aside0 (w'.heap[gb190]? = some (.cells #[u191000, u191001, .int .i64 x191002_2, .int .i64 x191003_7, .int .i64 x191004_94] 30 (0, 0))) ∧ Aside0 (Below w.heap.size w w'))
                        case atStart => exact ⟨(x191003_6), H', ⟨Nat.le_refl _⟩, ⟨by (with_reducible repeat (first | apply Kd.R_alloc | apply Kd.R_drewN | apply Kd.R_drew)); exact HO_191000.out⟩, ⟨by (with_reducible repeat (first | apply Kd.R_alloc | apply Kd.R_drewN | apply Kd.R_drew)); exact HO_191001.out⟩, ⟨by (with_reducible repeat (first | refine blk_drewN ?_ _ | refine blk_drew ?_ | refine blk_alloc ?_ _)); exact BK182.out⟩, ⟨by (with_reducible repeat (first | refine blk_drewN ?_ _ | refine blk_drew ?_ | refine blk_alloc ?_ _)); exact BK183.out⟩, ⟨by (with_reducible repeat (first | refine blk_drewN ?_ _ | refine blk_drew ?_ | refine blk_alloc ?_ _)); exact BK190.out⟩, ⟨by repeat (first | (with_reducible first | exact HB.out | apply below_alloc | apply pw_below_drewN | apply below_drew1 | refine below_set ?_ GE182.out | refine below_set ?_ GE183.out | refine below_set ?_ GE190.out) | exact HB.out)⟩⟩
                        case round =>
                         clear H'
                         (try clear c1); (try clear p1); (try clear q1); (try clear hx1); (try clear c2); (try clear p2); (try clear q2); (try clear hx2); (try clear hf2); (try clear c3); (try clear c4); (try clear c5); (try clear p5); (try clear q5); (try clear hx5); (try clear hf5); (try clear c6); (try clear p6); (try clear c7); (try clear c8); (try clear c9); (try clear c10); (try clear c19); (try clear p19); (try clear q19); (try clear hx19); (try clear c25); (try clear c25b0); (try clear c26); (try clear c26b0); (try clear c27); (try clear c27b0); (try clear p28); (try clear q28); (try clear hx28); (try clear hf28); (try clear c29); (try clear c30); (try clear c32); (try clear c36); (try clear c37); (try clear c39); (try clear c39b0); (try clear c40); (try clear c40b0); (try clear c41); (try clear c41b0); (try clear c42); (try clear c43); (try clear c45); (try clear c45b0); (try clear c46); (try clear c47); (try clear c49); (try clear c51); (try clear c51b0); (try clear c52); (try clear c52b0); (try clear c53); (try clear c53b0); (try clear c53b1); (try clear p54); (try clear q54); (try clear hx54); (try clear hf54); (try clear c55); (try clear c55b0); (try clear c56); (try clear c57); (try clear c59); (try clear p64); (try clear c66); (try clear c67); (try clear c69); (try clear c74); (try clear c74b0); (try clear c75); (try clear c76); (try clear c78); (try clear c78b0); (try clear c79); (try clear c80); (try clear c82); (try clear c82b0); (try clear c83); (try clear c83b0); (try clear c84); (try clear c85); (try clear c87); (try clear c90); (try clear c91); (try clear c92); (try clear c94); (try clear c94b0); (try clear c96); (try clear c96b0); (try clear c96b1); (try clear c97); (try clear c97b0); (try clear c97b1); (try clear c98); (try clear c99); (try clear c101); (try clear c102); (try clear c104); (try clear c104b0); (try clear c105); (try clear c105b0); (try clear c106); (try clear c106b0); (try clear c106b1); (try clear c106b2); (try clear c107); (try clear c108); (try clear hcz100_0)
                         (try clear hcz100_1); (try clear hcz100_2); (try clear hcz100_3); (try clear hcz100_4); (try clear hcz103_0); (try clear hcz103_1); (try clear hcz103_2); (try clear hcz103_3); (try clear hcz103_4); (try clear hcz109_0); (try clear hcz109_1); (try clear hcz109_2); (try clear hcz31_0); (try clear hcz31_1); (try clear hcz31_2); (try clear hcz33_0); (try clear hcz33_1); (try clear hcz33_2); (try clear hcz33_3); (try clear hcz33_4); (try clear hcz38_0); (try clear hcz38_1); (try clear hcz38_2); (try clear hcz44_0); (try clear hcz44_1); (try clear hcz44_2); (try clear hcz44_3); (try clear hcz44_4); (try clear hcz48_0); (try clear hcz48_1); (try clear hcz48_2); (try clear hcz50_0); (try clear hcz50_1); (try clear hcz50_2); (try clear hcz50_3); (try clear hcz50_4); (try clear hcz58_0); (try clear hcz58_1); (try clear hcz58_2); (try clear hcz60_0); (try clear hcz60_1); (try clear hcz60_2); (try clear hcz60_3); (try clear hcz60_4); (try clear hcz68_0); (try clear hcz68_1); (try clear hcz68_2); (try clear hcz70_0); (try clear hcz70_1); (try clear hcz70_2); (try clear hcz70_3); (try clear hcz70_4); (try clear hcz72_0); (try clear hcz72_1); (try clear hcz72_2); (try clear hcz72_3); (try clear hcz72_4); (try clear hcz77_0); (try clear hcz77_1); (try clear hcz77_2); (try clear hcz81_0); (try clear hcz81_1); (try clear hcz81_2); (try clear hcz86_0); (try clear hcz86_1); (try clear hcz86_2); (try clear hcz88_0); (try clear hcz88_1); (try clear hcz88_2); (try clear hcz88_3); (try clear hcz88_4); (try clear hcz93_0); (try clear hcz93_1); (try clear hcz93_2); (try clear hcz93_3); (try clear hcz93_4); (try clear hfz100_0); (try clear hfz100_1); (try clear hfz100_2); (try clear hfz100_3); (try clear hfz100_4); (try clear hfz103_0); (try clear hfz103_1); (try clear hfz103_2); (try clear hfz103_3); (try clear hfz103_4); (try clear hfz109_0); (try clear hfz109_1); (try clear hfz109_2); (try clear hfz31_0); (try clear hfz31_1); (try clear hfz31_2); (try clear hfz33_0); (try clear hfz33_1); (try clear hfz33_2)
                         (try clear hfz33_3); (try clear hfz33_4); (try clear hfz38_0); (try clear hfz38_1); (try clear hfz38_2); (try clear hfz44_0); (try clear hfz44_1); (try clear hfz44_2); (try clear hfz44_3); (try clear hfz44_4); (try clear hfz48_0); (try clear hfz48_1); (try clear hfz48_2); (try clear hfz50_0); (try clear hfz50_1); (try clear hfz50_2); (try clear hfz50_3); (try clear hfz50_4); (try clear hfz58_0); (try clear hfz58_1); (try clear hfz58_2); (try clear hfz60_0); (try clear hfz60_1); (try clear hfz60_2); (try clear hfz60_3); (try clear hfz60_4); (try clear hfz68_0); (try clear hfz68_1); (try clear hfz68_2); (try clear hfz70_0); (try clear hfz70_1); (try clear hfz70_2); (try clear hfz70_3); (try clear hfz70_4); (try clear hfz72_0); (try clear hfz72_1); (try clear hfz72_2); (try clear hfz72_3); (try clear hfz72_4); (try clear hfz77_0); (try clear hfz77_1); (try clear hfz77_2); (try clear hfz81_0); (try clear hfz81_1); (try clear hfz81_2); (try clear hfz86_0); (try clear hfz86_1); (try clear hfz86_2); (try clear hfz88_0); (try clear hfz88_1); (try clear hfz88_2); (try clear hfz88_3); (try clear hfz88_4); (try clear hfz93_0); (try clear hfz93_1); (try clear hfz93_2); (try clear hfz93_3); (try clear hfz93_4); (try clear hx192_0); (try clear hx193_0); (try clear hx195_0); (try clear hx195_1); (try clear hx195_2); (try clear hx195_3); (try clear hx195_4); (try clear hx196_0); (try clear hx197_0); (try clear hx197_1); (try clear hx197_2); (try clear hx197_3); (try clear hx197_4); (try clear hx28_0); (try clear hx54_0); (try clear p1); (try clear p19); (try clear p192); (try clear p193); (try clear p195); (try clear p196); (try clear p197); (try clear p2); (try clear p28); (try clear p5); (try clear p54); (try clear p6); (try clear p64); (try clear q1); (try clear q19); (try clear q192); (try clear q193); (try clear q195); (try clear q196); (try clear q197); (try clear q2); (try clear q28); (try clear q5); (try clear q54)
                         obtain ⟨x191003_7, HA, HK7, HO_191000, HO_191001, BK182, BK183, BK190, HB⟩ := hrel
                         cases gk with
                         | zero => exact absurd HA.out (by simp [spliceref12_Plan.l5])
                         | succ k7 =>
                          have H := HA.out
                          clear HA
                          simp only [spliceref12_Plan.l5] at H
                          by_cases c110 : 0 ≤ x11_6
                          ·
                           rw [if_pos c110] at H
                           have c110b0 : decide (0 ≤ x11_6) = true := decide_eq_true c110
                           clear c110
                           by_cases c111 : x11_6 < (l0_1.length : Int)
                           ·
                            rw [if_pos c111] at H
                            have c111b0 : decide (x11_6 < (l0_1.length : Int)) = true := decide_eq_true c111
                            clear c111
                            by_cases c112 : ((rd_T39 l0_1 x11_6).f0) = 0
                            ·
                             rw [if_pos c112] at H
                             exact absurd H (by simp)
                            ·
                             rw [if_neg c112] at H
                             have c112b0 : (((rd_T39 l0_1 x11_6).f0) == 0) = false := beq_eq_false_iff_ne.mpr c112
                             have c112b1 : (((rd_T39 l0_1 x11_6).f0) != 0) = true := bne_iff_ne.mpr c112
                             by_cases c113 : (Int.tmod x191003_7 ((rd_T39 l0_1 x11_6).f0)) = 0
                             ·
                              rw [if_pos c113] at H
                              have c113b0 : ((Int.tmod x191003_7 ((rd_T39 l0_1 x11_6).f0)) == 0) = true := beq_iff_eq.mpr c113
                              have c113b1 : ((Int.tmod x191003_7 ((rd_T39 l0_1 x11_6).f0)) != 0) = false := bne_eq_false_iff_eq.mpr c113
                              clear c113
                              by_cases c114 : x11_6 < (x191001_6.length : Int)
                              ·
                               rw [if_pos c114] at H
                               have c114b0 : decide (x11_6 < (x191001_6.length : Int)) = true := decide_eq_true c114
                               clear c114
                               obtain ⟨y199, hy199⟩ : ∃ y_ : List Int, y_ = (x191001_6.set (x11_6 : Int).toNat x191003_7) := ⟨_, rfl⟩
                               replace H : (spliceref12_Plan.l4 k7 x10_4 (wrap64 (x11_6 + 1)) l0_0 l0_1 a0_2 x191000_6 y199 x191002_2 (wrap64 (x191003_7 + ((rd_T39 l0_1 x11_6).f2))) x191004_94) = some (r1, r2, r3, r4, r5, r6) := by first | (rw [hy199]; with_reducible exact H) | (have H2_ := (Option.bind_some _ _).symm.trans H; rw [hy199]; with_reducible exact H2_) | (have H2_ := (Option.bind_some _ _).symm.trans H; with_reducible exact H2_) | with_reducible exact H | (rw [hy199]; exact H) | exact H
                               have Ny199 := Aside0.mk hy199
                               clear hy199
                               have H' := Aside0.mk H
                               clear H
                               try go_wp2
                               have n0_ := Aside0.mk (Kd.R_drew HO_191000.out)
                               have n1_ := Aside0.mk (Kd.R_drew HO_191001.out)
                               have n2_ := Aside0.mk (blk_drew BK182.out)
                               have n3_ := Aside0.mk (blk_drew BK183.out)
                               have n4_ := Aside0.mk (blk_drew BK190.out)
                               have n5_ := Aside0.mk (below_drew1 HB.out)
                               clear HO_191000
                               clear HO_191001
                               clear BK182
                               clear BK183
                               clear BK190
                               clear HB
                               have HO_191000 := n0_
                               have HO_191001 := n1_
                               have BK182 := n2_
                               have BK183 := n3_
                               have BK190 := n4_
                               have HB := n5_
                               clear n0_ n1_ n2_ n3_ n4_ n5_
                               have p198 : 0 ≤ (x11_6 : Int) := of_decide_eq_true (by first | (with_reducible assumption) | assumption)
                               have q198 : x11_6 < (l0_1.length : Int) := of_decide_eq_true (by first | (with_reducible assumption) | assumption)
                               obtain ⟨ad198, A198_3, c198_3, A198_4, c198_4, e198, hx198_0, hx198_1, hx198_2, hx198_3, hx198_4, hl198_3, hi198_3, hl198_4, hi198_4⟩ := at_T39 HR0_1.out x11_6 p198 q198
                               have hw198_4 := hx198_4
                               have hw198_3 := hx198_3
                               have hw198_2 := hx198_2
                               have hw198_1 := hx198_1
                               have hw198_0 := hx198_0
                               obtain rfl : ad197 = ad198 := (by injection e198)
                               replace hx198_0 := (HB.out.cell (World.block_lt_of_cell? w _ hx198_0)).trans hx198_0
                               replace hx198_1 := (HB.out.cell (World.block_lt_of_cell? w _ hx198_1)).trans hx198_1
                               replace hx198_2 := (HB.out.cell (World.block_lt_of_cell? w _ hx198_2)).trans hx198_2
                               replace hx198_3 := (HB.out.cell (World.block_lt_of_cell? w _ hx198_3)).trans hx198_3
                               replace hx198_4 := (HB.out.cell (World.block_lt_of_cell? w _ hx198_4)).trans hx198_4
                               have HR198_3 := Aside0.mk hi198_3
                               have HC198_3 := Aside0.mk hl198_3
                               clear hi198_3 hl198_3
                               have HR198_4 := Aside0.mk hi198_4
                               have HC198_4 := Aside0.mk hl198_4
                               clear hi198_4 hl198_4
                               replace p198 := eq_true p198
                               replace q198 := eq_true q198
                               refine start_ (n := 10) (S := fun w' => w'.cell? ⟨gb190, 0, none⟩ = some (u191000) ∧ w'.cell? ⟨gb190, 1, none⟩ = some (u191001) ∧ w'.cell? ⟨gb190, 2, none⟩ = some (.int .i64 x191002_2) ∧ w'.cell? ⟨gb190, 3, none⟩ = some (.int .i64 x191003_7) ∧ w'.cell? ⟨gb190, 4, none⟩ = some (.int .i64 x191004_94) ∧ w'.cell? ⟨gb182, 0, none⟩ = some (.slice A0_0 l0_0.length c0_0) ∧ w'.cell? ⟨gb182, 1, none⟩ = some (.slice (some ad197) l0_1.length c0_1) ∧ w'.cell? ⟨gb182, 2, none⟩ = some (.int .i64 a0_2) ∧ w'.cell? (ad197.add ((x11_6).toNat * 5)) = some (.int .i64 ((rd_T39 l0_1 x11_6).f0)) ∧ w'.cell? ⟨(ad197.add ((x11_6).toNat * 5)).block, (ad197.add ((x11_6).toNat * 5)).off + 1, none⟩ = some (.bool ((rd_T39 l0_1 x11_6).f1)) ∧ w'.cell? ⟨(ad197.add ((x11_6).toNat * 5)).block, (ad197.add ((x11_6).toNat * 5)).off + 2, none⟩ = some (.int .i64 ((rd_T39 l0_1 x11_6).f2)) ∧ w'.cell? ⟨(ad197.add ((x11_6).toNat * 5)).block, (ad197.add ((x11_6).toNat * 5)).off + 3, none⟩ = some (.slice A198_3 ((rd_T39 l0_1 x11_6).f3).length c198_3) ∧ w'.cell? ⟨(ad197.add ((x11_6).toNat * 5)).block, (ad197.add ((x11_6).toNat * 5)).off + 4, none⟩ = some (.slice A198_4 ((rd_T39 l0_1 x11_6).f4).length c198_4)) (ds := []) #[false, false, false, false, false, false, false, false, false, false] (by kernel_rfl) rfl rfl ⟨(blk_cell BK190.out 0).trans rfl, (blk_cell BK190.out 1).trans rfl, (blk_cell BK190.out 2).trans rfl, (blk_cell BK190.out 3).trans rfl, (blk_cell BK190.out 4).trans rfl, (blk_cell BK182.out 0).trans rfl, (blk_cell BK182.out 1).trans rfl, (blk_cell BK182.out 2).trans rfl, ((HB.out.cell (World.block_lt_of_cell? w _ hw198_0)).trans hw198_0), ((HB.out.cell (World.block_lt_of_cell? w _ hw198_1)).trans hw198_1), ((HB.out.cell (World.block_lt_of_cell? w _ hw198_2)).trans hw198_2), ((HB.out.cell (World.block_lt_of_cell? w _ hw198_3)).trans hw198_3), ((HB.out.cell (World.block_lt_of_cell? w _ hw198_4)).trans hw198_4)⟩ (fun hHeld => ?_); refine with_tabW spliceref12_Plan.tab27 spliceref12_Plan.bits27 (fun HT_ HW_ => ?_)
                               generalize wr.drew = w116 at HO_191000 HO_191001 BK182 BK183 BK190 HB HR198_3 HR198_4 hx198_0 hx198_1 hx198_2 hx198_3 hx198_4 hHeld ⊢
                               refine pure_ (i := 0) (N := some 131) (v := ?_) (a' := ?_) #[true, false, false, false, false, false, false, false, false, false] rfl rfl (any_of HT_.out (by kernel_rfl)) (fun _ _ _ h => h) (Or.inl ⟨by rfl, ?_⟩) ?_ ?_
                               rotate_left
                               ·
                                intro w'
                                go_simp
                                with_reducible rfl
                               rotate_left
                               ·
                                simp only [Act.put, List.setIfInBounds_toArray, List.set_cons_zero, List.set_cons_succ, i64_w, i32_w]
                                rfl
                               refine pure_ (i := 2) (N := some 133) (v := ?_) (a' := ?_) #[true, false, true, false, false, false, false, false, false, false] rfl rfl (any_of HT_.out (by kernel_rfl)) (fun _ _ _ h => h) (Or.inl ⟨by rfl, ?_⟩) ?_ ?_
                               rotate_left
                               ·
                                intro w'
                                go_simp
                                with_reducible rfl
                               rotate_left
                               ·
                                simp only [Act.put, List.setIfInBounds_toArray, List.set_cons_zero, List.set_cons_succ, i64_w, i32_w]
                                rfl
                               refine pure_ (i := 4) (N := some 135) (v := ?_) (a' := ?_) #[true, false, true, false, true, false, false, false, false, false] rfl rfl (any_of HT_.out (by kernel_rfl)) (fun _ _ _ h => h) (Or.inl ⟨by rfl, ?_⟩) ?_ ?_
                               rotate_left
                               ·
                                intro w'
                                go_simp
                                with_reducible rfl
                               rotate_left
                               ·
                                simp only [Act.put, List.setIfInBounds_toArray, List.set_cons_zero, List.set_cons_succ, i64_w, i32_w]
                                rfl
                               refine take_ (i := 1) (N := some 132) (v := ?_) (a' := ?_) #[true, true, true, false, true, false, false, false, false, false] rfl rfl (take_ofW HT_.out HW_.out (by kernel_rfl)) (fun _ _ _ h => h) (Or.inl ⟨by rfl, ?_⟩) hHeld ?_ ?_
                               rotate_left
                               ·
                                rintro w' ⟨s0, s1, s2, s3, s4, s5, s6, s7, s8, s9, s10, s11, s12⟩
                                go_simp
                                with_reducible rfl
                               rotate_left
                               ·
                                simp only [Act.put, List.setIfInBounds_toArray, List.set_cons_zero, List.set_cons_succ, i64_w, i32_w]
                                rfl
                               refine take_ (i := 3) (N := some 134) (v := ?_) (a' := ?_) #[true, true, true, true, true, false, false, false, false, false] rfl rfl (take_ofW HT_.out HW_.out (by kernel_rfl)) (fun _ _ _ h => h) (Or.inl ⟨by rfl, ?_⟩) hHeld ?_ ?_
                               rotate_left
                               ·
                                rintro w' ⟨s0, s1, s2, s3, s4, s5, s6, s7, s8, s9, s10, s11, s12⟩
                                go_simp
                                with_reducible rfl
                               rotate_left
                               ·
                                simp only [Act.put, List.setIfInBounds_toArray, List.set_cons_zero, List.set_cons_succ, i64_w, i32_w]
                                rfl
                               refine pure_ (i := 5) (N := some 136) (v := ?_) (a' := ?_) #[true, true, true, true, true, true, false, false, false, false] rfl rfl (any_of HT_.out (by kernel_rfl)) (fun _ _ _ h => h) (Or.inl ⟨by rfl, ?_⟩) ?_ ?_
                               rotate_left
                               ·
                                intro w'
                                go_simp
                                with_reducible rfl
                               rotate_left
                               ·
                                simp only [Act.put, List.setIfInBounds_toArray, List.set_cons_zero, List.set_cons_succ, i64_w, i32_w]
                                rfl
                               refine pure_ (i := 6) (N := some 137) (v := ?_) (a' := ?_) #[true, true, true, true, true, true, true, false, false, false] rfl rfl (any_of HT_.out (by kernel_rfl)) (fun _ _ _ h => h) (Or.inl ⟨by rfl, ?_⟩) ?_ ?_
                               rotate_left
                               ·
                                intro w'
                                go_simp
                                with_reducible rfl
                               rotate_left
                               ·
                                simp only [Act.put, List.setIfInBounds_toArray, List.set_cons_zero, List.set_cons_succ, i64_w, i32_w]
                                rfl
                               refine take_ (i := 7) (N := some 138) (v := ?_) (a' := ?_) #[true, true, true, true, true, true, true, true, false, false] rfl rfl (take_ofW HT_.out HW_.out (by kernel_rfl)) (fun _ _ _ h => h) (Or.inl ⟨by rfl, ?_⟩) hHeld ?_ ?_
                               rotate_left
                               ·
                                rintro w' ⟨s0, s1, s2, s3, s4, s5, s6, s7, s8, s9, s10, s11, s12⟩
                                go_simp
                                with_reducible rfl
                               rotate_left
                               ·
                                simp only [Act.put, List.setIfInBounds_toArray, List.set_cons_zero, List.set_cons_succ, i64_w, i32_w]
                                rfl
                               refine pure_ (i := 8) (N := some 139) (v := ?_) (a' := ?_) #[true, true, true, true, true, true, true, true, true, false] rfl rfl (any_of HT_.out (by kernel_rfl)) (fun _ _ _ h => h) (Or.inl ⟨by rfl, ?_⟩) ?_ ?_
                               rotate_left
                               ·
                                intro w'
                                go_simp
                                with_reducible rfl
                               rotate_left
                               ·
                                simp only [Act.put, List.setIfInBounds_toArray, List.set_cons_zero, List.set_cons_succ, i64_w, i32_w]
                                rfl
                               refine pure_ (i := 9) (N := some 140) (v := ?_) (a' := ?_) #[true, true, true, true, true, true, true, true, true, true] rfl rfl (any_of HT_.out (by kernel_rfl)) (fun _ _ _ h => h) (Or.inl ⟨by rfl, ?_⟩) ?_ ?_
                               rotate_left
                               ·
                                intro w'
                                go_simp
                                with_reducible rfl
                               rotate_left
                               ·
                                simp only [Act.put, List.setIfInBounds_toArray, List.set_cons_zero, List.set_cons_succ, i64_w, i32_w]
                                rfl
                               refine done_ (done_of HT_.out (by kernel_rfl)) ?_
                               have hnb117 := NB190_182.out
                               have hnc117 := NB182_190.out
                               have hnb118 := NB190_183.out
                               have hnc118 := NB183_190.out
                               have hcz119_0 : w116.cell? ⟨gb190, 0, none⟩ = some (u191000) := (blk_cell BK190.out 0).trans rfl
                               have hcz119_1 : w116.cell? ⟨gb190, 1, none⟩ = some (u191001) := (blk_cell BK190.out 1).trans rfl
                               have hcz119_2 : w116.cell? ⟨gb190, 2, none⟩ = some (.int .i64 x191002_2) := (blk_cell BK190.out 2).trans rfl
                               have hcz119_3 : w116.cell? ⟨gb190, 3, none⟩ = some (.int .i64 x191003_7) := (blk_cell BK190.out 3).trans rfl
                               have hcz119_4 : w116.cell? ⟨gb190, 4, none⟩ = some (.int .i64 x191004_94) := (blk_cell BK190.out 4).trans rfl
                               have hfz119_0 := blk_frozen BK190.out 0
                               have hfz119_1 := blk_frozen BK190.out 1
                               have hfz119_2 := blk_frozen BK190.out 2
                               have hfz119_3 := blk_frozen BK190.out 3
                               have hfz119_4 := blk_frozen BK190.out 4
                               have p115 : 0 ≤ (x11_6 : Int) := of_decide_eq_true (by first | (with_reducible assumption) | assumption)
                               have q115 : (x11_6 : Int) < ((x191001_6.length : Int) : Int) := of_decide_eq_true (by first | (with_reducible assumption) | assumption)
                               obtain ⟨go115, co115, eo115, gb115, gl115, cl115, HG115⟩ := Kd.R_form HO_191001.out (by omega)
                               (first | cases eo115 | (injection eo115 with ea_ en_ ec_; (first | subst ea_ | (injection ea_ with ea_; subst ea_)); subst ec_; clear en_))
                               have GB115 := Aside0.mk gb115
                               have GG115 := Aside0.mk HG115
                               clear gb115 gl115 HG115
                               obtain ⟨hx115_0, hf115_0⟩ := Kd.R_celln 0 HO_191001.out (x11_6 : Int) p115 q115
                               replace p115 := eq_true p115
                               replace q115 := eq_true q115
                               obtain ⟨hy120_, hz120_⟩ := Kd.R_celln 0 HO_191001.out (x11_6 : Int) (of_decide_eq_true (by first | (with_reducible assumption) | assumption)) (of_decide_eq_true (by first | (with_reducible assumption) | assumption))
                               have HP120 := Kd.R_putg HO_191001.out (x11_6 : Int) x191003_7
                               try go_wp2_with (first | ((with_reducible refine gate_store (t := 3) (p := 150) rfl ?_); refine store_event (t := 3) (p := 150) (v := ?vo_w121) (w1 := (w116.setCell ⟨go115, (x11_6 : Int).toNat, none⟩ (.int .i64 x191003_7))) ?hg ?ho ?hn ?hr ?_; (case ho => rfl); (case hg => rfl); (case hn => rfl); (case hr => first | (go_simp; done) | (go_simp; rfl)); intro w121 hw; have hg : w116.grownBy w121 (some go115) := (by rw [hw]; exact HP120.2); have hp_ : Kd.R (Kd.int .i64) 3 w121 w.heap.size (fun k_ => some k_ ≠ (u191000 : Value).ownBlock) (.slice (some ⟨go115, 0, none⟩) x191001_6.length co115) y199 := (by rw [hw, Ny199.out]; exact HP120.1); clear HP120; have n0_ := Aside0.mk (Kd.R_after (v := (.slice (some ⟨go115, 0, none⟩) x191001_6.length co115)) (v1 := (.slice (some ⟨go115, 0, none⟩) x191001_6.length co115)) (ok := (fun _ => True)) (by (with_reducible repeat (first | apply Kd.R_alloc | apply Kd.R_drewN | apply Kd.R_drew)); exact Kd.R_mono HO_191000.out (fun _ hk => ⟨trivial, hk⟩)) hg (.inl rfl)); have n1_ := Aside0.mk (hp_); have n2_ := Aside0.mk (blk_grown (g := gb182) (o := .cells #[.slice A0_0 l0_0.length c0_0, .slice (some ad197) l0_1.length c0_1, .int .i64 a0_2] 25 (0, 0)) (by (with_reducible repeat (first | refine blk_drewN ?_ _ | refine blk_drew ?_ | refine blk_alloc ?_ _)); exact BK182.out) hg (Kd.R_ne HO_191001.out BK182.out (by decide))); have n3_ := Aside0.mk (blk_grown (g := gb183) (o := .cells #[.slice none 0 0, .slice none 0 0, .int .i64 x184002_2, .int .i64 x184003_2, .int .i64 x184004_2] 30 (0, 0)) (by (with_reducible repeat (first | refine blk_drewN ?_ _ | refine blk_drew ?_ | refine blk_alloc ?_ _)); exact BK183.out) hg (Kd.R_ne HO_191001.out BK183.out (by decide))); have n4_ := Aside0.mk (blk_grown (g := gb190) (o := .cells #[u191000, .slice (some ⟨go115, 0, none⟩) x191001_6.length co115, .int .i64 x191002_2, .int .i64 x191003_7, .int .i64 x191004_94] 30 (0, 0)) (by (with_reducible repeat (first | refine blk_drewN ?_ _ | refine blk_drew ?_ | refine blk_alloc ?_ _)); exact BK190.out) hg (Kd.R_ne HO_191001.out BK190.out (by decide))); have n5_ := Aside0.mk ((by rw [hw]; exact below_set (HB.out) GB115.out : Below w.heap.size w w121)); clear HO_191000; clear HO_191001; clear BK182; clear BK183; clear BK190; clear HB; have HO_191000 := n0_; have HO_191001 := n1_; have BK182 := n2_; have BK183 := n3_; have BK190 := n4_; have HB := n5_; clear n0_ n1_ n2_ n3_ n4_ n5_; clear hg hw hp_))
                               have n0_ := Aside0.mk (Kd.R_drew HO_191000.out)
                               have n1_ := Aside0.mk (Kd.R_drew HO_191001.out)
                               have n2_ := Aside0.mk (blk_drew BK182.out)
                               have n3_ := Aside0.mk (blk_drew BK183.out)
                               have n4_ := Aside0.mk (blk_drew BK190.out)
                               have n5_ := Aside0.mk (below_drew1 HB.out)
                               clear HO_191000
                               clear HO_191001
                               clear BK182
                               clear BK183
                               clear BK190
                               clear HB
                               have HO_191000 := n0_
                               have HO_191001 := n1_
                               have BK182 := n2_
                               have BK183 := n3_
                               have BK190 := n4_
                               have HB := n5_
                               clear n0_ n1_ n2_ n3_ n4_ n5_
                               have p200 : 0 ≤ (x11_6 : Int) := of_decide_eq_true (by first | (with_reducible assumption) | assumption)
                               have q200 : x11_6 < (l0_1.length : Int) := of_decide_eq_true (by first | (with_reducible assumption) | assumption)
                               obtain ⟨ad200, A200_3, c200_3, A200_4, c200_4, e200, hx200_0, hx200_1, hx200_2, hx200_3, hx200_4, hl200_3, hi200_3, hl200_4, hi200_4⟩ := at_T39 HR0_1.out x11_6 p200 q200
                               have hw200_4 := hx200_4
                               have hw200_3 := hx200_3
                               have hw200_2 := hx200_2
                               have hw200_1 := hx200_1
                               have hw200_0 := hx200_0
                               obtain rfl : ad197 = ad200 := (by injection e200)
                               replace hx200_0 := (HB.out.cell (World.block_lt_of_cell? w _ hx200_0)).trans hx200_0
                               replace hx200_1 := (HB.out.cell (World.block_lt_of_cell? w _ hx200_1)).trans hx200_1
                               replace hx200_2 := (HB.out.cell (World.block_lt_of_cell? w _ hx200_2)).trans hx200_2
                               replace hx200_3 := (HB.out.cell (World.block_lt_of_cell? w _ hx200_3)).trans hx200_3
                               replace hx200_4 := (HB.out.cell (World.block_lt_of_cell? w _ hx200_4)).trans hx200_4
                               have HR200_3 := Aside0.mk hi200_3
                               have HC200_3 := Aside0.mk hl200_3
                               clear hi200_3 hl200_3
                               have HR200_4 := Aside0.mk hi200_4
                               have HC200_4 := Aside0.mk hl200_4
                               clear hi200_4 hl200_4
                               replace p200 := eq_true p200
                               replace q200 := eq_true q200
                               refine start_ (n := 11) (S := fun w' => w'.cell? ⟨gb190, 0, none⟩ = some (u191000) ∧ w'.cell? ⟨gb190, 1, none⟩ = some (.slice (some ⟨go115, 0, none⟩) x191001_6.length co115) ∧ w'.cell? ⟨gb190, 2, none⟩ = some (.int .i64 x191002_2) ∧ w'.cell? ⟨gb190, 3, none⟩ = some (.int .i64 x191003_7) ∧ w'.cell? ⟨gb190, 4, none⟩ = some (.int .i64 x191004_94) ∧ w'.cell? ⟨gb182, 0, none⟩ = some (.slice A0_0 l0_0.length c0_0) ∧ w'.cell? ⟨gb182, 1, none⟩ = some (.slice (some ad197) l0_1.length c0_1) ∧ w'.cell? ⟨gb182, 2, none⟩ = some (.int .i64 a0_2) ∧ w'.cell? (ad197.add ((x11_6).toNat * 5)) = some (.int .i64 ((rd_T39 l0_1 x11_6).f0)) ∧ w'.cell? ⟨(ad197.add ((x11_6).toNat * 5)).block, (ad197.add ((x11_6).toNat * 5)).off + 1, none⟩ = some (.bool ((rd_T39 l0_1 x11_6).f1)) ∧ w'.cell? ⟨(ad197.add ((x11_6).toNat * 5)).block, (ad197.add ((x11_6).toNat * 5)).off + 2, none⟩ = some (.int .i64 ((rd_T39 l0_1 x11_6).f2)) ∧ w'.cell? ⟨(ad197.add ((x11_6).toNat * 5)).block, (ad197.add ((x11_6).toNat * 5)).off + 3, none⟩ = some (.slice A200_3 ((rd_T39 l0_1 x11_6).f3).length c200_3) ∧ w'.cell? ⟨(ad197.add ((x11_6).toNat * 5)).block, (ad197.add ((x11_6).toNat * 5)).off + 4, none⟩ = some (.slice A200_4 ((rd_T39 l0_1 x11_6).f4).length c200_4)) (ds := [10]) #[false, false, false, false, false, false, false, false, false, false, false] (by kernel_rfl) rfl rfl ⟨(blk_cell BK190.out 0).trans rfl, (blk_cell BK190.out 1).trans rfl, (blk_cell BK190.out 2).trans rfl, (blk_cell BK190.out 3).trans rfl, (blk_cell BK190.out 4).trans rfl, (blk_cell BK182.out 0).trans rfl, (blk_cell BK182.out 1).trans rfl, (blk_cell BK182.out 2).trans rfl, ((HB.out.cell (World.block_lt_of_cell? w _ hw200_0)).trans hw200_0), ((HB.out.cell (World.block_lt_of_cell? w _ hw200_1)).trans hw200_1), ((HB.out.cell (World.block_lt_of_cell? w _ hw200_2)).trans hw200_2), ((HB.out.cell (World.block_lt_of_cell? w _ hw200_3)).trans hw200_3), ((HB.out.cell (World.block_lt_of_cell? w _ hw200_4)).trans hw200_4)⟩ (fun hHeld => ?_); refine with_tabW spliceref12_Plan.tab30 spliceref12_Plan.bits30 (fun HT_ HW_ => ?_)
                               generalize w121.drew = w122 at HO_191000 HO_191001 BK182 BK183 BK190 HB HR200_3 HR200_4 hx200_0 hx200_1 hx200_2 hx200_3 hx200_4 hHeld ⊢
                               refine pure_ (i := 0) (N := some 151) (v := ?_) (a' := ?_) #[true, false, false, false, false, false, false, false, false, false, false] rfl rfl (any_of HT_.out (by kernel_rfl)) (fun _ _ _ h => h) (Or.inl ⟨by rfl, ?_⟩) ?_ ?_
                               rotate_left
                               ·
                                intro w'
                                go_simp
                                with_reducible rfl
                               rotate_left
                               ·
                                simp only [Act.put, List.setIfInBounds_toArray, List.set_cons_zero, List.set_cons_succ, i64_w, i32_w]
                                rfl
                               refine pure_ (i := 2) (N := some 153) (v := ?_) (a' := ?_) #[true, false, true, false, false, false, false, false, false, false, false] rfl rfl (any_of HT_.out (by kernel_rfl)) (fun _ _ _ h => h) (Or.inl ⟨by rfl, ?_⟩) ?_ ?_
                               rotate_left
                               ·
                                intro w'
                                go_simp
                                with_reducible rfl
                               rotate_left
                               ·
                                simp only [Act.put, List.setIfInBounds_toArray, List.set_cons_zero, List.set_cons_succ, i64_w, i32_w]
                                rfl
                               refine pure_ (i := 4) (N := some 155) (v := ?_) (a' := ?_) #[true, false, true, false, true, false, false, false, false, false, false] rfl rfl (any_of HT_.out (by kernel_rfl)) (fun _ _ _ h => h) (Or.inl ⟨by rfl, ?_⟩) ?_ ?_
                               rotate_left
                               ·
                                intro w'
                                go_simp
                                with_reducible rfl
                               rotate_left
                               ·
                                simp only [Act.put, List.setIfInBounds_toArray, List.set_cons_zero, List.set_cons_succ, i64_w, i32_w]
                                rfl
                               refine take_ (i := 1) (N := some 152) (v := ?_) (a' := ?_) #[true, true, true, false, true, false, false, false, false, false, false] rfl rfl (take_ofW HT_.out HW_.out (by kernel_rfl)) (fun _ _ _ h => h) (Or.inl ⟨by rfl, ?_⟩) hHeld ?_ ?_
                               rotate_left
                               ·
                                rintro w' ⟨s0, s1, s2, s3, s4, s5, s6, s7, s8, s9, s10, s11, s12⟩
                                go_simp
                                with_reducible rfl
                               rotate_left
                               ·
                                simp only [Act.put, List.setIfInBounds_toArray, List.set_cons_zero, List.set_cons_succ, i64_w, i32_w]
                                rfl
                               refine take_ (i := 3) (N := some 154) (v := ?_) (a' := ?_) #[true, true, true, true, true, false, false, false, false, false, false] rfl rfl (take_ofW HT_.out HW_.out (by kernel_rfl)) (fun _ _ _ h => h) (Or.inl ⟨by rfl, ?_⟩) hHeld ?_ ?_
                               rotate_left
                               ·
                                rintro w' ⟨s0, s1, s2, s3, s4, s5, s6, s7, s8, s9, s10, s11, s12⟩
                                go_simp
                                with_reducible rfl
                               rotate_left
                               ·
                                simp only [Act.put, List.setIfInBounds_toArray, List.set_cons_zero, List.set_cons_succ, i64_w, i32_w]
                                rfl
                               refine pure_ (i := 5) (N := some 156) (v := ?_) (a' := ?_) #[true, true, true, true, true, true, false, false, false, false, false] rfl rfl (any_of HT_.out (by kernel_rfl)) (fun _ _ _ h => h) (Or.inl ⟨by rfl, ?_⟩) ?_ ?_
                               rotate_left
                               ·
                                intro w'
                                go_simp
                                with_reducible rfl
                               rotate_left
                               ·
                                simp only [Act.put, List.setIfInBounds_toArray, List.set_cons_zero, List.set_cons_succ, i64_w, i32_w]
                                rfl
                               refine pure_ (i := 6) (N := some 157) (v := ?_) (a' := ?_) #[true, true, true, true, true, true, true, false, false, false, false] rfl rfl (any_of HT_.out (by kernel_rfl)) (fun _ _ _ h => h) (Or.inl ⟨by rfl, ?_⟩) ?_ ?_
                               rotate_left
                               ·
                                intro w'
                                go_simp
                                with_reducible rfl
                               rotate_left
                               ·
                                simp only [Act.put, List.setIfInBounds_toArray, List.set_cons_zero, List.set_cons_succ, i64_w, i32_w]
                                rfl
                               refine take_ (i := 7) (N := some 158) (v := ?_) (a' := ?_) #[true, true, true, true, true, true, true, true, false, false, false] rfl rfl (take_ofW HT_.out HW_.out (by kernel_rfl)) (fun _ _ _ h => h) (Or.inl ⟨by rfl, ?_⟩) hHeld ?_ ?_
                               rotate_left
                               ·
                                rintro w' ⟨s0, s1, s2, s3, s4, s5, s6, s7, s8, s9, s10, s11, s12⟩
                                go_simp
                                with_reducible rfl
                               rotate_left
                               ·
                                simp only [Act.put, List.setIfInBounds_toArray, List.set_cons_zero, List.set_cons_succ, i64_w, i32_w]
                                rfl
                               refine pure_ (i := 8) (N := some 159) (v := ?_) (a' := ?_) #[true, true, true, true, true, true, true, true, true, false, false] rfl rfl (any_of HT_.out (by kernel_rfl)) (fun _ _ _ h => h) (Or.inl ⟨by rfl, ?_⟩) ?_ ?_
                               rotate_left
                               ·
                                intro w'
                                go_simp
                                with_reducible rfl
                               rotate_left
                               ·
                                simp only [Act.put, List.setIfInBounds_toArray, List.set_cons_zero, List.set_cons_succ, i64_w, i32_w]
                                rfl
                               refine pure_ (i := 9) (N := some 160) (v := ?_) (a' := ?_) #[true, true, true, true, true, true, true, true, true, true, false] rfl rfl (any_of HT_.out (by kernel_rfl)) (fun _ _ _ h => h) (Or.inl ⟨by rfl, ?_⟩) ?_ ?_
                               rotate_left
                               ·
                                intro w'
                                go_simp
                                with_reducible rfl
                               rotate_left
                               ·
                                simp only [Act.put, List.setIfInBounds_toArray, List.set_cons_zero, List.set_cons_succ, i64_w, i32_w]
                                rfl
                               refine last_ (i := 10) (N := none) #[true, true, true, true, true, true, true, true, true, true, true] rfl rfl (one_of HT_.out (by kernel_rfl)) (by decide) (fun K hK => ?_)
                               have hs123 : w122.cell? ⟨gb190, 3, none⟩ = some (.int .i64 x191003_7) := (blk_cell BK190.out 3).trans rfl
                               have hfs123 := blk_frozen BK190.out 3
                               have hns123_0 := NB182_190.out
                               have hns123_1 := NB183_190.out
                               have hms123_0 := NB190_182.out
                               have hms123_1 := NB190_183.out
                               refine skip_ (w1 := ?_) (by rfl) rfl ?_ ?_
                               rotate_left
                               ·
                                go_simp
                                rfl
                               refine hK.out _ _ ?_
                               clear hK K
                               refine done_ (done_of HT_.out (by kernel_rfl)) ?_
                               try go_wp2
                               go_roundg k7
                               case measure => have := HK1.out; have := HK2.out; have := HJ72.out; have := HK4.out; have := HJ94.out; have := HK6.out; have := HK7.out; omega
                               case rel => exact ⟨(wrap64 (x11_6 + 1)), (x191000_6), (y199), (wrap64 (x191003_7 + ((rd_T39 l0_1 x11_6).f2))), (u191000), (.slice (some ⟨go115, 0, none⟩) x191001_6.length co115), (by first | rfl | (simp; done) | (simp [*]; done)), H', ⟨by have := HK1.out; have := HK2.out; have := HJ72.out; have := HK4.out; have := HJ94.out; have := HK6.out; have := HK7.out; omega⟩, ⟨by (with_reducible repeat (first | apply Kd.R_alloc | apply Kd.R_drewN | apply Kd.R_drew)); exact Kd.R_mono (Kd.R_far (p := ⟨gb190, 3, none⟩) (Kd.R_types HO_191000.out BK190.out (by decide)) (fun _ hk => hk.2) (.int .i64 (wrap64 (x191003_7 + ((rd_T39 l0_1 x11_6).f2))))) (fun _ hk => hk.1.2)⟩, ⟨by (with_reducible repeat (first | apply Kd.R_alloc | apply Kd.R_drewN | apply Kd.R_drew)); exact Kd.R_mono (Kd.R_far (p := ⟨gb190, 3, none⟩) (Kd.R_types HO_191001.out BK190.out (by decide)) (fun _ hk => hk.2) (.int .i64 (wrap64 (x191003_7 + ((rd_T39 l0_1 x11_6).f2))))) (fun _ hk => hk.1)⟩, ⟨by (with_reducible repeat (first | refine blk_drewN ?_ _ | refine blk_drew ?_ | refine blk_alloc ?_ _)); refine blk_far ?_ NB182_190.out _; (with_reducible repeat (first | refine blk_drewN ?_ _ | refine blk_drew ?_ | refine blk_alloc ?_ _)); exact BK182.out⟩, ⟨by (with_reducible repeat (first | refine blk_drewN ?_ _ | refine blk_drew ?_ | refine blk_alloc ?_ _)); refine blk_far ?_ NB183_190.out _; (with_reducible repeat (first | refine blk_drewN ?_ _ | refine blk_drew ?_ | refine blk_alloc ?_ _)); exact BK183.out⟩, ⟨by (with_reducible repeat (first | refine blk_drewN ?_ _ | refine blk_drew ?_ | refine blk_alloc ?_ _)); refine blk_put (cs := #[u191000, .slice (some ⟨go115, 0, none⟩) x191001_6.length co115, .int .i64 x191002_2, .int .i64 x191003_7, .int .i64 x191004_94]) ?_ 3 _ rfl; (with_reducible repeat (first | refine blk_drewN ?_ _ | refine blk_drew ?_ | refine blk_alloc ?_ _)); exact BK190.out⟩, ⟨by repeat (first | (with_reducible first | exact HB.out | apply below_alloc | apply pw_below_drewN | apply below_drew1 | refine below_set ?_ GE182.out | refine below_set ?_ GE183.out | refine below_set ?_ GE190.out) | exact HB.out)⟩⟩
                              ·
                               rw [if_neg c114] at H
                               exact absurd H (by simp)
                             ·
                              rw [if_neg c113] at H
                              have c113b0 : ((Int.tmod x191003_7 ((rd_T39 l0_1 x11_6).f0)) == 0) = false := beq_eq_false_iff_ne.mpr c113
                              have c113b1 : ((Int.tmod x191003_7 ((rd_T39 l0_1 x11_6).f0)) != 0) = true := bne_iff_ne.mpr c113
                              have H' := Aside0.mk H
                              clear H
                              try go_wp2
                              have n0_ := Aside0.mk (Kd.R_drew HO_191000.out)
                              have n1_ := Aside0.mk (Kd.R_drew HO_191001.out)
                              have n2_ := Aside0.mk (blk_drew BK182.out)
                              have n3_ := Aside0.mk (blk_drew BK183.out)
                              have n4_ := Aside0.mk (blk_drew BK190.out)
                              have n5_ := Aside0.mk (below_drew1 HB.out)
                              clear HO_191000
                              clear HO_191001
                              clear BK182
                              clear BK183
                              clear BK190
                              clear HB
                              have HO_191000 := n0_
                              have HO_191001 := n1_
                              have BK182 := n2_
                              have BK183 := n3_
                              have BK190 := n4_
                              have HB := n5_
                              clear n0_ n1_ n2_ n3_ n4_ n5_
                              have p198 : 0 ≤ (x11_6 : Int) := of_decide_eq_true (by first | (with_reducible assumption) | assumption)
                              have q198 : x11_6 < (l0_1.length : Int) := of_decide_eq_true (by first | (with_reducible assumption) | assumption)
                              obtain ⟨ad198, A198_3, c198_3, A198_4, c198_4, e198, hx198_0, hx198_1, hx198_2, hx198_3, hx198_4, hl198_3, hi198_3, hl198_4, hi198_4⟩ := at_T39 HR0_1.out x11_6 p198 q198
                              have hw198_4 := hx198_4
                              have hw198_3 := hx198_3
                              have hw198_2 := hx198_2
                              have hw198_1 := hx198_1
                              have hw198_0 := hx198_0
                              obtain rfl : ad197 = ad198 := (by injection e198)
                              replace hx198_0 := (HB.out.cell (World.block_lt_of_cell? w _ hx198_0)).trans hx198_0
                              replace hx198_1 := (HB.out.cell (World.block_lt_of_cell? w _ hx198_1)).trans hx198_1
                              replace hx198_2 := (HB.out.cell (World.block_lt_of_cell? w _ hx198_2)).trans hx198_2
                              replace hx198_3 := (HB.out.cell (World.block_lt_of_cell? w _ hx198_3)).trans hx198_3
                              replace hx198_4 := (HB.out.cell (World.block_lt_of_cell? w _ hx198_4)).trans hx198_4
                              have HR198_3 := Aside0.mk hi198_3
                              have HC198_3 := Aside0.mk hl198_3
                              clear hi198_3 hl198_3
                              have HR198_4 := Aside0.mk hi198_4
                              have HC198_4 := Aside0.mk hl198_4
                              clear hi198_4 hl198_4
                              replace p198 := eq_true p198
                              replace q198 := eq_true q198
                              refine start_ (n := 10) (S := fun w' => w'.cell? ⟨gb190, 0, none⟩ = some (u191000) ∧ w'.cell? ⟨gb190, 1, none⟩ = some (u191001) ∧ w'.cell? ⟨gb190, 2, none⟩ = some (.int .i64 x191002_2) ∧ w'.cell? ⟨gb190, 3, none⟩ = some (.int .i64 x191003_7) ∧ w'.cell? ⟨gb190, 4, none⟩ = some (.int .i64 x191004_94) ∧ w'.cell? ⟨gb182, 0, none⟩ = some (.slice A0_0 l0_0.length c0_0) ∧ w'.cell? ⟨gb182, 1, none⟩ = some (.slice (some ad197) l0_1.length c0_1) ∧ w'.cell? ⟨gb182, 2, none⟩ = some (.int .i64 a0_2) ∧ w'.cell? (ad197.add ((x11_6).toNat * 5)) = some (.int .i64 ((rd_T39 l0_1 x11_6).f0)) ∧ w'.cell? ⟨(ad197.add ((x11_6).toNat * 5)).block, (ad197.add ((x11_6).toNat * 5)).off + 1, none⟩ = some (.bool ((rd_T39 l0_1 x11_6).f1)) ∧ w'.cell? ⟨(ad197.add ((x11_6).toNat * 5)).block, (ad197.add ((x11_6).toNat * 5)).off + 2, none⟩ = some (.int .i64 ((rd_T39 l0_1 x11_6).f2)) ∧ w'.cell? ⟨(ad197.add ((x11_6).toNat * 5)).block, (ad197.add ((x11_6).toNat * 5)).off + 3, none⟩ = some (.slice A198_3 ((rd_T39 l0_1 x11_6).f3).length c198_3) ∧ w'.cell? ⟨(ad197.add ((x11_6).toNat * 5)).block, (ad197.add ((x11_6).toNat * 5)).off + 4, none⟩ = some (.slice A198_4 ((rd_T39 l0_1 x11_6).f4).length c198_4)) (ds := []) #[false, false, false, false, false, false, false, false, false, false] (by kernel_rfl) rfl rfl ⟨(blk_cell BK190.out 0).trans rfl, (blk_cell BK190.out 1).trans rfl, (blk_cell BK190.out 2).trans rfl, (blk_cell BK190.out 3).trans rfl, (blk_cell BK190.out 4).trans rfl, (blk_cell BK182.out 0).trans rfl, (blk_cell BK182.out 1).trans rfl, (blk_cell BK182.out 2).trans rfl, ((HB.out.cell (World.block_lt_of_cell? w _ hw198_0)).trans hw198_0), ((HB.out.cell (World.block_lt_of_cell? w _ hw198_1)).trans hw198_1), ((HB.out.cell (World.block_lt_of_cell? w _ hw198_2)).trans hw198_2), ((HB.out.cell (World.block_lt_of_cell? w _ hw198_3)).trans hw198_3), ((HB.out.cell (World.block_lt_of_cell? w _ hw198_4)).trans hw198_4)⟩ (fun hHeld => ?_); refine with_tabW spliceref12_Plan.tab27 spliceref12_Plan.bits27 (fun HT_ HW_ => ?_)
                              generalize wr.drew = w124 at HO_191000 HO_191001 BK182 BK183 BK190 HB HR198_3 HR198_4 hx198_0 hx198_1 hx198_2 hx198_3 hx198_4 hHeld ⊢
                              refine pure_ (i := 0) (N := some 131) (v := ?_) (a' := ?_) #[true, false, false, false, false, false, false, false, false, false] rfl rfl (any_of HT_.out (by kernel_rfl)) (fun _ _ _ h => h) (Or.inl ⟨by rfl, ?_⟩) ?_ ?_
                              rotate_left
                              ·
                               intro w'
                               go_simp
                               with_reducible rfl
                              rotate_left
                              ·
                               simp only [Act.put, List.setIfInBounds_toArray, List.set_cons_zero, List.set_cons_succ, i64_w, i32_w]
                               rfl
                              refine pure_ (i := 2) (N := some 133) (v := ?_) (a' := ?_) #[true, false, true, false, false, false, false, false, false, false] rfl rfl (any_of HT_.out (by kernel_rfl)) (fun _ _ _ h => h) (Or.inl ⟨by rfl, ?_⟩) ?_ ?_
                              rotate_left
                              ·
                               intro w'
                               go_simp
                               with_reducible rfl
                              rotate_left
                              ·
                               simp only [Act.put, List.setIfInBounds_toArray, List.set_cons_zero, List.set_cons_succ, i64_w, i32_w]
                               rfl
                              refine pure_ (i := 4) (N := some 135) (v := ?_) (a' := ?_) #[true, false, true, false, true, false, false, false, false, false] rfl rfl (any_of HT_.out (by kernel_rfl)) (fun _ _ _ h => h) (Or.inl ⟨by rfl, ?_⟩) ?_ ?_
                              rotate_left
                              ·
                               intro w'
                               go_simp
                               with_reducible rfl
                              rotate_left
                              ·
                               simp only [Act.put, List.setIfInBounds_toArray, List.set_cons_zero, List.set_cons_succ, i64_w, i32_w]
                               rfl
                              refine take_ (i := 1) (N := some 132) (v := ?_) (a' := ?_) #[true, true, true, false, true, false, false, false, false, false] rfl rfl (take_ofW HT_.out HW_.out (by kernel_rfl)) (fun _ _ _ h => h) (Or.inl ⟨by rfl, ?_⟩) hHeld ?_ ?_
                              rotate_left
                              ·
                               rintro w' ⟨s0, s1, s2, s3, s4, s5, s6, s7, s8, s9, s10, s11, s12⟩
                               go_simp
                               with_reducible rfl
                              rotate_left
                              ·
                               simp only [Act.put, List.setIfInBounds_toArray, List.set_cons_zero, List.set_cons_succ, i64_w, i32_w]
                               rfl
                              refine take_ (i := 3) (N := some 134) (v := ?_) (a' := ?_) #[true, true, true, true, true, false, false, false, false, false] rfl rfl (take_ofW HT_.out HW_.out (by kernel_rfl)) (fun _ _ _ h => h) (Or.inl ⟨by rfl, ?_⟩) hHeld ?_ ?_
                              rotate_left
                              ·
                               rintro w' ⟨s0, s1, s2, s3, s4, s5, s6, s7, s8, s9, s10, s11, s12⟩
                               go_simp
                               with_reducible rfl
                              rotate_left
                              ·
                               simp only [Act.put, List.setIfInBounds_toArray, List.set_cons_zero, List.set_cons_succ, i64_w, i32_w]
                               rfl
                              refine pure_ (i := 5) (N := some 136) (v := ?_) (a' := ?_) #[true, true, true, true, true, true, false, false, false, false] rfl rfl (any_of HT_.out (by kernel_rfl)) (fun _ _ _ h => h) (Or.inl ⟨by rfl, ?_⟩) ?_ ?_
                              rotate_left
                              ·
                               intro w'
                               go_simp
                               with_reducible rfl
                              rotate_left
                              ·
                               simp only [Act.put, List.setIfInBounds_toArray, List.set_cons_zero, List.set_cons_succ, i64_w, i32_w]
                               rfl
                              refine pure_ (i := 6) (N := some 137) (v := ?_) (a' := ?_) #[true, true, true, true, true, true, true, false, false, false] rfl rfl (any_of HT_.out (by kernel_rfl)) (fun _ _ _ h => h) (Or.inl ⟨by rfl, ?_⟩) ?_ ?_
                              rotate_left
                              ·
                               intro w'
                               go_simp
                               with_reducible rfl
                              rotate_left
                              ·
                               simp only [Act.put, List.setIfInBounds_toArray, List.set_cons_zero, List.set_cons_succ, i64_w, i32_w]
                               rfl
                              refine take_ (i := 7) (N := some 138) (v := ?_) (a' := ?_) #[true, true, true, true, true, true, true, true, false, false] rfl rfl (take_ofW HT_.out HW_.out (by kernel_rfl)) (fun _ _ _ h => h) (Or.inl ⟨by rfl, ?_⟩) hHeld ?_ ?_
                              rotate_left
                              ·
                               rintro w' ⟨s0, s1, s2, s3, s4, s5, s6, s7, s8, s9, s10, s11, s12⟩
                               go_simp
                               with_reducible rfl
                              rotate_left
                              ·
                               simp only [Act.put, List.setIfInBounds_toArray, List.set_cons_zero, List.set_cons_succ, i64_w, i32_w]
                               rfl
                              refine pure_ (i := 8) (N := some 139) (v := ?_) (a' := ?_) #[true, true, true, true, true, true, true, true, true, false] rfl rfl (any_of HT_.out (by kernel_rfl)) (fun _ _ _ h => h) (Or.inl ⟨by rfl, ?_⟩) ?_ ?_
                              rotate_left
                              ·
                               intro w'
                               go_simp
                               with_reducible rfl
                              rotate_left
                              ·
                               simp only [Act.put, List.setIfInBounds_toArray, List.set_cons_zero, List.set_cons_succ, i64_w, i32_w]
                               rfl
                              refine pure_ (i := 9) (N := some 140) (v := ?_) (a' := ?_) #[true, true, true, true, true, true, true, true, true, true] rfl rfl (any_of HT_.out (by kernel_rfl)) (fun _ _ _ h => h) (Or.inl ⟨by rfl, ?_⟩) ?_ ?_
                              rotate_left
                              ·
                               intro w'
                               go_simp
                               with_reducible rfl
                              rotate_left
                              ·
                               simp only [Act.put, List.setIfInBounds_toArray, List.set_cons_zero, List.set_cons_succ, i64_w, i32_w]
                               rfl
                              refine done_ (done_of HT_.out (by kernel_rfl)) ?_
                              have hnb125 := NB190_182.out
                              have hnc125 := NB182_190.out
                              have hnb126 := NB190_183.out
                              have hnc126 := NB183_190.out
                              have hcz127_0 : w124.cell? ⟨gb190, 0, none⟩ = some (u191000) := (blk_cell BK190.out 0).trans rfl
                              have hcz127_1 : w124.cell? ⟨gb190, 1, none⟩ = some (u191001) := (blk_cell BK190.out 1).trans rfl
                              have hcz127_2 : w124.cell? ⟨gb190, 2, none⟩ = some (.int .i64 x191002_2) := (blk_cell BK190.out 2).trans rfl
                              have hcz127_3 : w124.cell? ⟨gb190, 3, none⟩ = some (.int .i64 x191003_7) := (blk_cell BK190.out 3).trans rfl
                              have hcz127_4 : w124.cell? ⟨gb190, 4, none⟩ = some (.int .i64 x191004_94) := (blk_cell BK190.out 4).trans rfl
                              have hfz127_0 := blk_frozen BK190.out 0
                              have hfz127_1 := blk_frozen BK190.out 1
                              have hfz127_2 := blk_frozen BK190.out 2
                              have hfz127_3 := blk_frozen BK190.out 3
                              have hfz127_4 := blk_frozen BK190.out 4
                              try go_wp2
                              go_roundg k7
                              case measure => have := HK1.out; have := HK2.out; have := HJ72.out; have := HK4.out; have := HJ94.out; have := HK6.out; have := HK7.out; omega
                              case rel => exact ⟨(wrap64 (x191003_7 + 1)), H', ⟨by have := HK1.out; have := HK2.out; have := HJ72.out; have := HK4.out; have := HJ94.out; have := HK6.out; have := HK7.out; omega⟩, ⟨by (with_reducible repeat (first | apply Kd.R_alloc | apply Kd.R_drewN | apply Kd.R_drew)); exact Kd.R_mono (Kd.R_far (p := ⟨gb190, 3, none⟩) (Kd.R_types HO_191000.out BK190.out (by decide)) (fun _ hk => hk.2) (.int .i64 (wrap64 (x191003_7 + 1)))) (fun _ hk => hk.1)⟩, ⟨by (with_reducible repeat (first | apply Kd.R_alloc | apply Kd.R_drewN | apply Kd.R_drew)); exact Kd.R_mono (Kd.R_far (p := ⟨gb190, 3, none⟩) (Kd.R_types HO_191001.out BK190.out (by decide)) (fun _ hk => hk.2) (.int .i64 (wrap64 (x191003_7 + 1)))) (fun _ hk => hk.1)⟩, ⟨by (with_reducible repeat (first | refine blk_drewN ?_ _ | refine blk_drew ?_ | refine blk_alloc ?_ _)); refine blk_far ?_ NB182_190.out _; (with_reducible repeat (first | refine blk_drewN ?_ _ | refine blk_drew ?_ | refine blk_alloc ?_ _)); exact BK182.out⟩, ⟨by (with_reducible repeat (first | refine blk_drewN ?_ _ | refine blk_drew ?_ | refine blk_alloc ?_ _)); refine blk_far ?_ NB183_190.out _; (with_reducible repeat (first | refine blk_drewN ?_ _ | refine blk_drew ?_ | refine blk_alloc ?_ _)); exact BK183.out⟩, ⟨by (with_reducible repeat (first | refine blk_drewN ?_ _ | refine blk_drew ?_ | refine blk_alloc ?_ _)); refine blk_put (cs := #[u191000, u191001, .int .i64 x191002_2, .int .i64 x191003_7, .int .i64 x191004_94]) ?_ 3 _ rfl; (with_reducible repeat (first | refine blk_drewN ?_ _ | refine blk_drew ?_ | refine blk_alloc ?_ _)); exact BK190.out⟩, ⟨by repeat (first | (with_reducible first | exact HB.out | apply below_alloc | apply pw_below_drewN | apply below_drew1 | refine below_set ?_ GE182.out | refine below_set ?_ GE183.out | refine below_set ?_ GE190.out) | exact HB.out)⟩⟩
                           ·
                            rw [if_neg c111] at H
                            exact absurd H (by simp)
                          ·
                           rw [if_neg c110] at H
                           exact absurd H (by simp)
                       ·
                        rw [if_neg c106] at H
                        have c106b0 : (((rd_T39 l0_1 x11_6).f1) == (x10_4 == 0)) = false := by simpa using c106
                        (try (have c106b1 : decide (((rd_T39 l0_1 x11_6).f1) = (x10_4 == 0)) = false := by simpa using c106))
                        (try (have c106b2 : (((rd_T39 l0_1 x11_6).f1) == (x10_4 == 0)) = false := by simpa using c106))
                        (try (have c106b3 : ¬ (((rd_T39 l0_1 x11_6).f1) = (x10_4 == 0)) := by simpa using c106))
                        clear c106
                        have H' := Aside0.mk H
                        clear H
                        have hnb128 := NB182_183.out
                        have hnc128 := NB183_182.out
                        have hnb129 := NB182_190.out
                        have hnc129 := NB190_182.out
                        have hcz130_0 : wr.cell? ⟨gb182, 0, none⟩ = some (.slice A0_0 l0_0.length c0_0) := (blk_cell BK182.out 0).trans rfl
                        have hcz130_1 : wr.cell? ⟨gb182, 1, none⟩ = some (.slice A0_1 l0_1.length c0_1) := (blk_cell BK182.out 1).trans rfl
                        have hcz130_2 : wr.cell? ⟨gb182, 2, none⟩ = some (.int .i64 a0_2) := (blk_cell BK182.out 2).trans rfl
                        have hfz130_0 := blk_frozen BK182.out 0
                        have hfz130_1 := blk_frozen BK182.out 1
                        have hfz130_2 := blk_frozen BK182.out 2
                        have p197 : 0 ≤ (x11_6 : Int) := of_decide_eq_true (by first | (with_reducible assumption) | assumption)
                        have q197 : x11_6 < (l0_1.length : Int) := of_decide_eq_true (by first | (with_reducible assumption) | assumption)
                        obtain ⟨ad197, A197_3, c197_3, A197_4, c197_4, e197, hx197_0, hx197_1, hx197_2, hx197_3, hx197_4, hl197_3, hi197_3, hl197_4, hi197_4⟩ := at_T39 HR0_1.out x11_6 p197 q197
                        cases e197
                        replace hx197_0 := (HB.out.cell (World.block_lt_of_cell? w _ hx197_0)).trans hx197_0
                        replace hx197_1 := (HB.out.cell (World.block_lt_of_cell? w _ hx197_1)).trans hx197_1
                        replace hx197_2 := (HB.out.cell (World.block_lt_of_cell? w _ hx197_2)).trans hx197_2
                        replace hx197_3 := (HB.out.cell (World.block_lt_of_cell? w _ hx197_3)).trans hx197_3
                        replace hx197_4 := (HB.out.cell (World.block_lt_of_cell? w _ hx197_4)).trans hx197_4
                        have HR197_3 := Aside0.mk hi197_3
                        have HC197_3 := Aside0.mk hl197_3
                        clear hi197_3 hl197_3
                        have HR197_4 := Aside0.mk hi197_4
                        have HC197_4 := Aside0.mk hl197_4
                        clear hi197_4 hl197_4
                        replace p197 := eq_true p197
                        replace q197 := eq_true q197
                        go_wp2
                        go_roundg k6
                        case measure => have := HK1.out; have := HK2.out; have := HJ72.out; have := HK4.out; have := HJ94.out; have := HK6.out; omega
                        case rel => exact ⟨(wrap64 (x11_6 + 1)), (x191000_6), (x191001_6), (x191003_6), (u191000), (u191001), (by first | rfl | (simp; done) | (simp [*]; done)), H', ⟨by have := HK1.out; have := HK2.out; have := HJ72.out; have := HK4.out; have := HJ94.out; have := HK6.out; omega⟩, ⟨by (with_reducible repeat (first | apply Kd.R_alloc | apply Kd.R_drewN | apply Kd.R_drew)); exact HO_191000.out⟩, ⟨by (with_reducible repeat (first | apply Kd.R_alloc | apply Kd.R_drewN | apply Kd.R_drew)); exact HO_191001.out⟩, ⟨by (with_reducible repeat (first | refine blk_drewN ?_ _ | refine blk_drew ?_ | refine blk_alloc ?_ _)); exact BK182.out⟩, ⟨by (with_reducible repeat (first | refine blk_drewN ?_ _ | refine blk_drew ?_ | refine blk_alloc ?_ _)); exact BK183.out⟩, ⟨by (with_reducible repeat (first | refine blk_drewN ?_ _ | refine blk_drew ?_ | refine blk_alloc ?_ _)); exact BK190.out⟩, ⟨by repeat (first | (with_reducible first | exact HB.out | apply below_alloc | apply pw_below_drewN | apply below_drew1 | refine below_set ?_ GE182.out | refine below_set ?_ GE183.out | refine below_set ?_ GE190.out) | exact HB.out)⟩⟩
                      ·
                       rw [if_neg c105] at H
                       exact absurd H (by simp)
                     ·
                      rw [if_neg c104] at H
                      have c104b0 : decide (x11_6 < (l0_1.length : Int)) = false := decide_eq_false c104
                      clear c104
                      have H' := Aside0.mk H
                      clear H
                      have hnb131 := NB182_183.out
                      have hnc131 := NB183_182.out
                      have hnb132 := NB182_190.out
                      have hnc132 := NB190_182.out
                      have hcz133_0 : wr.cell? ⟨gb182, 0, none⟩ = some (.slice A0_0 l0_0.length c0_0) := (blk_cell BK182.out 0).trans rfl
                      have hcz133_1 : wr.cell? ⟨gb182, 1, none⟩ = some (.slice A0_1 l0_1.length c0_1) := (blk_cell BK182.out 1).trans rfl
                      have hcz133_2 : wr.cell? ⟨gb182, 2, none⟩ = some (.int .i64 a0_2) := (blk_cell BK182.out 2).trans rfl
                      have hfz133_0 := blk_frozen BK182.out 0
                      have hfz133_1 := blk_frozen BK182.out 1
                      have hfz133_2 := blk_frozen BK182.out 2
                      go_wp2
                      go_roundg k6
                      case measure => have := HK1.out; have := HK2.out; have := HJ72.out; have := HK4.out; have := HJ94.out; have := HK6.out; omega
                      case rel => exact ⟨(wrap64 (x10_4 + 1)), (x191000_6), (x191001_6), (x191003_6), (x191004_94), (u191000), (u191001), (by first | rfl | (simp; done) | (simp [*]; done)), H', ⟨by have := HK1.out; have := HK2.out; have := HJ72.out; have := HK4.out; have := HJ94.out; have := HK6.out; omega⟩, ⟨by (with_reducible repeat (first | apply Kd.R_alloc | apply Kd.R_drewN | apply Kd.R_drew)); exact HO_191000.out⟩, ⟨by (with_reducible repeat (first | apply Kd.R_alloc | apply Kd.R_drewN | apply Kd.R_drew)); exact HO_191001.out⟩, ⟨by (with_reducible repeat (first | refine blk_drewN ?_ _ | refine blk_drew ?_ | refine blk_alloc ?_ _)); exact BK182.out⟩, ⟨by (with_reducible repeat (first | refine blk_drewN ?_ _ | refine blk_drew ?_ | refine blk_alloc ?_ _)); exact BK183.out⟩, ⟨by (with_reducible repeat (first | refine blk_drewN ?_ _ | refine blk_drew ?_ | refine blk_alloc ?_ _)); exact BK190.out⟩, ⟨by repeat (first | (with_reducible first | exact HB.out | apply below_alloc | apply pw_below_drewN | apply below_drew1 | refine below_set ?_ GE182.out | refine below_set ?_ GE183.out | refine below_set ?_ GE190.out) | exact HB.out)⟩⟩
                ·
                 rw [if_neg c94] at H
                 have c94b0 : decide (x10_4 < 2) = false := decide_eq_false c94
                 clear c94
                 by_cases c134 : x191002_2 > 65536
                 ·
                  rw [if_pos c134] at H
                  have c134b0 : decide (65536 < x191002_2) = true := decide_eq_true c134
                  clear c134
                  simp only [Option.some.injEq, Prod.mk.injEq] at H
                  obtain ⟨rfl, rfl, rfl, rfl, rfl, rfl⟩ := H
                  have hnb135 := NB190_182.out
                  have hnc135 := NB182_190.out
                  have hnb136 := NB190_183.out
                  have hnc136 := NB183_190.out
                  have hcz137_0 : wr.cell? ⟨gb190, 0, none⟩ = some (u191000) := (blk_cell BK190.out 0).trans rfl
                  have hcz137_1 : wr.cell? ⟨gb190, 1, none⟩ = some (u191001) := (blk_cell BK190.out 1).trans rfl
                  have hcz137_2 : wr.cell? ⟨gb190, 2, none⟩ = some (.int .i64 x191002_2) := (blk_cell BK190.out 2).trans rfl
                  have hcz137_3 : wr.cell? ⟨gb190, 3, none⟩ = some (.int .i64 x191003_4) := (blk_cell BK190.out 3).trans rfl
                  have hcz137_4 : wr.cell? ⟨gb190, 4, none⟩ = some (.int .i64 x191004_4) := (blk_cell BK190.out 4).trans rfl
                  have hfz137_0 := blk_frozen BK190.out 0
                  have hfz137_1 := blk_frozen BK190.out 1
                  have hfz137_2 := blk_frozen BK190.out 2
                  have hfz137_3 := blk_frozen BK190.out 3
                  have hfz137_4 := blk_frozen BK190.out 4
                  have hnb138 := NB183_182.out
                  have hnc138 := NB182_183.out
                  have hcz139_0 : wr.cell? ⟨gb183, 0, none⟩ = some (.slice none 0 0) := (blk_cell BK183.out 0).trans rfl
                  have hcz139_1 : wr.cell? ⟨gb183, 1, none⟩ = some (.slice none 0 0) := (blk_cell BK183.out 1).trans rfl
                  have hcz139_2 : wr.cell? ⟨gb183, 2, none⟩ = some (.int .i64 x184002_2) := (blk_cell BK183.out 2).trans rfl
                  have hcz139_3 : wr.cell? ⟨gb183, 3, none⟩ = some (.int .i64 x184003_2) := (blk_cell BK183.out 3).trans rfl
                  have hcz139_4 : wr.cell? ⟨gb183, 4, none⟩ = some (.int .i64 x184004_2) := (blk_cell BK183.out 4).trans rfl
                  have hfz139_0 := blk_frozen BK183.out 0
                  have hfz139_1 := blk_frozen BK183.out 1
                  have hfz139_2 := blk_frozen BK183.out 2
                  have hfz139_3 := blk_frozen BK183.out 3
                  have hfz139_4 := blk_frozen BK183.out 4
                  go_wp2
                  refine bodyPost_ret (results_ct rfl _ _ gb183 30 #[.slice none 0 0, .slice none 0 0, .int .i64 0, .int .i64 0, .int .i64 0] (0, 0) _ rfl (by (with_reducible repeat (first | refine blk_drewN ?_ _ | refine blk_drew ?_ | refine blk_alloc ?_ _)); refine blk_put (cs := #[.slice none 0 0, .slice none 0 0, .int .i64 0, .int .i64 0, .int .i64 x184004_2]) ?_ 4 _ rfl; (with_reducible repeat (first | refine blk_drewN ?_ _ | refine blk_drew ?_ | refine blk_alloc ?_ _)); refine blk_put (cs := #[.slice none 0 0, .slice none 0 0, .int .i64 0, .int .i64 x184003_2, .int .i64 x184004_2]) ?_ 3 _ rfl; (with_reducible repeat (first | refine blk_drewN ?_ _ | refine blk_drew ?_ | refine blk_alloc ?_ _)); refine blk_put (cs := #[.slice none 0 0, .slice none 0 0, .int .i64 x184002_2, .int .i64 x184003_2, .int .i64 x184004_2]) ?_ 2 _ rfl; (with_reducible repeat (first | refine blk_drewN ?_ _ | refine blk_drew ?_ | refine blk_alloc ?_ _)); refine blk_put (cs := #[.slice none 0 0, .slice none 0 0, .int .i64 x184002_2, .int .i64 x184003_2, .int .i64 x184004_2]) ?_ 1 _ rfl; (with_reducible repeat (first | refine blk_drewN ?_ _ | refine blk_drew ?_ | refine blk_alloc ?_ _)); refine blk_put (cs := #[.slice none 0 0, .slice none 0 0, .int .i64 x184002_2, .int .i64 x184003_2, .int .i64 x184004_2]) ?_ 0 _ rfl; (with_reducible repeat (first | refine blk_drewN ?_ _ | refine blk_drew ?_ | refine blk_alloc ?_ _)); exact BK183.out) Try.underlying30 rfl (by kernel_rfl)) rfl ?_
                  exact ⟨_, _, by first | rfl | (simp [errW_none, errW_some] <;> rfl) | (simp [*, errW_none, errW_some] <;> rfl), by first | exact Kd.R_nil _ _ _ _ _ | exact Kd.N_nil _ _ _ _ _ | exact Kd.V_nil _ _ _ _ _ | exact Kd.Q_nil _ _ _ _ _ | exact Kd.S_nil _ _ _ _ _, by first | exact Kd.R_nil _ _ _ _ _ | exact Kd.N_nil _ _ _ _ _ | exact Kd.V_nil _ _ _ _ _ | exact Kd.Q_nil _ _ _ _ _ | exact Kd.S_nil _ _ _ _ _, by repeat (first | (with_reducible first | exact HB.out | apply below_alloc | apply pw_below_drewN | apply below_drew1 | refine below_set ?_ GE182.out | refine below_set ?_ GE183.out | refine below_set ?_ GE190.out) | exact HB.out)⟩
                 ·
                  rw [if_neg c134] at H
                  have c134b0 : decide (65536 < x191002_2) = false := decide_eq_false c134
                  clear c134
                  by_cases c140 : x191003_4 > 65536
                  ·
                   rw [if_pos c140] at H
                   have c140b0 : decide (65536 < x191003_4) = true := decide_eq_true c140
                   clear c140
                   simp only [Option.some.injEq, Prod.mk.injEq] at H
                   obtain ⟨rfl, rfl, rfl, rfl, rfl, rfl⟩ := H
                   have hnb141 := NB190_182.out
                   have hnc141 := NB182_190.out
                   have hnb142 := NB190_183.out
                   have hnc142 := NB183_190.out
                   have hcz143_0 : wr.cell? ⟨gb190, 0, none⟩ = some (u191000) := (blk_cell BK190.out 0).trans rfl
                   have hcz143_1 : wr.cell? ⟨gb190, 1, none⟩ = some (u191001) := (blk_cell BK190.out 1).trans rfl
                   have hcz143_2 : wr.cell? ⟨gb190, 2, none⟩ = some (.int .i64 x191002_2) := (blk_cell BK190.out 2).trans rfl
                   have hcz143_3 : wr.cell? ⟨gb190, 3, none⟩ = some (.int .i64 x191003_4) := (blk_cell BK190.out 3).trans rfl
                   have hcz143_4 : wr.cell? ⟨gb190, 4, none⟩ = some (.int .i64 x191004_4) := (blk_cell BK190.out 4).trans rfl
                   have hfz143_0 := blk_frozen BK190.out 0
                   have hfz143_1 := blk_frozen BK190.out 1
                   have hfz143_2 := blk_frozen BK190.out 2
                   have hfz143_3 := blk_frozen BK190.out 3
                   have hfz143_4 := blk_frozen BK190.out 4
                   have hnb144 := NB183_182.out
                   have hnc144 := NB182_183.out
                   have hcz145_0 : wr.cell? ⟨gb183, 0, none⟩ = some (.slice none 0 0) := (blk_cell BK183.out 0).trans rfl
                   have hcz145_1 : wr.cell? ⟨gb183, 1, none⟩ = some (.slice none 0 0) := (blk_cell BK183.out 1).trans rfl
                   have hcz145_2 : wr.cell? ⟨gb183, 2, none⟩ = some (.int .i64 x184002_2) := (blk_cell BK183.out 2).trans rfl
                   have hcz145_3 : wr.cell? ⟨gb183, 3, none⟩ = some (.int .i64 x184003_2) := (blk_cell BK183.out 3).trans rfl
                   have hcz145_4 : wr.cell? ⟨gb183, 4, none⟩ = some (.int .i64 x184004_2) := (blk_cell BK183.out 4).trans rfl
                   have hfz145_0 := blk_frozen BK183.out 0
                   have hfz145_1 := blk_frozen BK183.out 1
                   have hfz145_2 := blk_frozen BK183.out 2
                   have hfz145_3 := blk_frozen BK183.out 3
                   have hfz145_4 := blk_frozen BK183.out 4
                   go_wp2
                   refine bodyPost_ret (results_ct rfl _ _ gb183 30 #[.slice none 0 0, .slice none 0 0, .int .i64 0, .int .i64 0, .int .i64 0] (0, 0) _ rfl (by (with_reducible repeat (first | refine blk_drewN ?_ _ | refine blk_drew ?_ | refine blk_alloc ?_ _)); refine blk_put (cs := #[.slice none 0 0, .slice none 0 0, .int .i64 0, .int .i64 0, .int .i64 x184004_2]) ?_ 4 _ rfl; (with_reducible repeat (first | refine blk_drewN ?_ _ | refine blk_drew ?_ | refine blk_alloc ?_ _)); refine blk_put (cs := #[.slice none 0 0, .slice none 0 0, .int .i64 0, .int .i64 x184003_2, .int .i64 x184004_2]) ?_ 3 _ rfl; (with_reducible repeat (first | refine blk_drewN ?_ _ | refine blk_drew ?_ | refine blk_alloc ?_ _)); refine blk_put (cs := #[.slice none 0 0, .slice none 0 0, .int .i64 x184002_2, .int .i64 x184003_2, .int .i64 x184004_2]) ?_ 2 _ rfl; (with_reducible repeat (first | refine blk_drewN ?_ _ | refine blk_drew ?_ | refine blk_alloc ?_ _)); refine blk_put (cs := #[.slice none 0 0, .slice none 0 0, .int .i64 x184002_2, .int .i64 x184003_2, .int .i64 x184004_2]) ?_ 1 _ rfl; (with_reducible repeat (first | refine blk_drewN ?_ _ | refine blk_drew ?_ | refine blk_alloc ?_ _)); refine blk_put (cs := #[.slice none 0 0, .slice none 0 0, .int .i64 x184002_2, .int .i64 x184003_2, .int .i64 x184004_2]) ?_ 0 _ rfl; (with_reducible repeat (first | refine blk_drewN ?_ _ | refine blk_drew ?_ | refine blk_alloc ?_ _)); exact BK183.out) Try.underlying30 rfl (by kernel_rfl)) rfl ?_
                   exact ⟨_, _, by first | rfl | (simp [errW_none, errW_some] <;> rfl) | (simp [*, errW_none, errW_some] <;> rfl), by first | exact Kd.R_nil _ _ _ _ _ | exact Kd.N_nil _ _ _ _ _ | exact Kd.V_nil _ _ _ _ _ | exact Kd.Q_nil _ _ _ _ _ | exact Kd.S_nil _ _ _ _ _, by first | exact Kd.R_nil _ _ _ _ _ | exact Kd.N_nil _ _ _ _ _ | exact Kd.V_nil _ _ _ _ _ | exact Kd.Q_nil _ _ _ _ _ | exact Kd.S_nil _ _ _ _ _, by repeat (first | (with_reducible first | exact HB.out | apply below_alloc | apply pw_below_drewN | apply below_drew1 | refine below_set ?_ GE182.out | refine below_set ?_ GE183.out | refine below_set ?_ GE190.out) | exact HB.out)⟩
                  ·
                   rw [if_neg c140] at H
                   have c140b0 : decide (65536 < x191003_4) = false := decide_eq_false c140
                   clear c140
                   simp only [Option.some.injEq, Prod.mk.injEq] at H
                   obtain ⟨rfl, rfl, rfl, rfl, rfl, rfl⟩ := H
                   have hnb146 := NB190_182.out
                   have hnc146 := NB182_190.out
                   have hnb147 := NB190_183.out
                   have hnc147 := NB183_190.out
                   have hcz148_0 : wr.cell? ⟨gb190, 0, none⟩ = some (u191000) := (blk_cell BK190.out 0).trans rfl
                   have hcz148_1 : wr.cell? ⟨gb190, 1, none⟩ = some (u191001) := (blk_cell BK190.out 1).trans rfl
                   have hcz148_2 : wr.cell? ⟨gb190, 2, none⟩ = some (.int .i64 x191002_2) := (blk_cell BK190.out 2).trans rfl
                   have hcz148_3 : wr.cell? ⟨gb190, 3, none⟩ = some (.int .i64 x191003_4) := (blk_cell BK190.out 3).trans rfl
                   have hcz148_4 : wr.cell? ⟨gb190, 4, none⟩ = some (.int .i64 x191004_4) := (blk_cell BK190.out 4).trans rfl
                   have hfz148_0 := blk_frozen BK190.out 0
                   have hfz148_1 := blk_frozen BK190.out 1
                   have hfz148_2 := blk_frozen BK190.out 2
                   have hfz148_3 := blk_frozen BK190.out 3
                   have hfz148_4 := blk_frozen BK190.out 4
                   obtain ⟨Ao149, co149, eo149⟩ := Kd.R_slice HO_191000.out
                   subst eo149
                   have hnb150 := NB183_182.out
                   have hnc150 := NB182_183.out
                   have hcz151_0 : wr.cell? ⟨gb183, 0, none⟩ = some (.slice none 0 0) := (blk_cell BK183.out 0).trans rfl
                   have hcz151_1 : wr.cell? ⟨gb183, 1, none⟩ = some (.slice none 0 0) := (blk_cell BK183.out 1).trans rfl
                   have hcz151_2 : wr.cell? ⟨gb183, 2, none⟩ = some (.int .i64 x184002_2) := (blk_cell BK183.out 2).trans rfl
                   have hcz151_3 : wr.cell? ⟨gb183, 3, none⟩ = some (.int .i64 x184003_2) := (blk_cell BK183.out 3).trans rfl
                   have hcz151_4 : wr.cell? ⟨gb183, 4, none⟩ = some (.int .i64 x184004_2) := (blk_cell BK183.out 4).trans rfl
                   have hfz151_0 := blk_frozen BK183.out 0
                   have hfz151_1 := blk_frozen BK183.out 1
                   have hfz151_2 := blk_frozen BK183.out 2
                   have hfz151_3 := blk_frozen BK183.out 3
                   have hfz151_4 := blk_frozen BK183.out 4
                   obtain ⟨Ao152, co152, eo152⟩ := Kd.R_slice HO_191001.out
                   subst eo152
                   go_wp2
                   refine bodyPost_ret (results_ct rfl _ _ gb183 30 #[.slice Ao149 x191000_4.length co149, .slice Ao152 x191001_4.length co152, .int .i64 x191002_2, .int .i64 x191003_4, .int .i64 x191004_4] (0, 0) _ rfl (by (with_reducible repeat (first | refine blk_drewN ?_ _ | refine blk_drew ?_ | refine blk_alloc ?_ _)); refine blk_put (cs := #[.slice Ao149 x191000_4.length co149, .slice Ao152 x191001_4.length co152, .int .i64 x191002_2, .int .i64 x191003_4, .int .i64 x184004_2]) ?_ 4 _ rfl; (with_reducible repeat (first | refine blk_drewN ?_ _ | refine blk_drew ?_ | refine blk_alloc ?_ _)); refine blk_put (cs := #[.slice Ao149 x191000_4.length co149, .slice Ao152 x191001_4.length co152, .int .i64 x191002_2, .int .i64 x184003_2, .int .i64 x184004_2]) ?_ 3 _ rfl; (with_reducible repeat (first | refine blk_drewN ?_ _ | refine blk_drew ?_ | refine blk_alloc ?_ _)); refine blk_put (cs := #[.slice Ao149 x191000_4.length co149, .slice Ao152 x191001_4.length co152, .int .i64 x184002_2, .int .i64 x184003_2, .int .i64 x184004_2]) ?_ 2 _ rfl; (with_reducible repeat (first | refine blk_drewN ?_ _ | refine blk_drew ?_ | refine blk_alloc ?_ _)); refine blk_put (cs := #[.slice Ao149 x191000_4.length co149, .slice none 0 0, .int .i64 x184002_2, .int .i64 x184003_2, .int .i64 x184004_2]) ?_ 1 _ rfl; (with_reducible repeat (first | refine blk_drewN ?_ _ | refine blk_drew ?_ | refine blk_alloc ?_ _)); refine blk_put (cs := #[.slice none 0 0, .slice none 0 0, .int .i64 x184002_2, .int .i64 x184003_2, .int .i64 x184004_2]) ?_ 0 _ rfl; (with_reducible repeat (first | refine blk_drewN ?_ _ | refine blk_drew ?_ | refine blk_alloc ?_ _)); exact BK183.out) Try.underlying30 rfl (by kernel_rfl)) rfl ?_
                   exact ⟨_, _, by first | rfl | (simp [errW_none, errW_some] <;> rfl) | (simp [*, errW_none, errW_some] <;> rfl), by (with_reducible repeat (first | apply Kd.R_alloc | apply Kd.R_drewN | apply Kd.R_drew)); exact Kd.R_mono (Kd.R_far (p := ⟨gb183, 4, none⟩) (Kd.R_far (p := ⟨gb183, 3, none⟩) (Kd.R_far (p := ⟨gb183, 2, none⟩) (Kd.R_far (p := ⟨gb183, 1, none⟩) (Kd.R_far (p := ⟨gb183, 0, none⟩) (Kd.R_types HO_191000.out BK183.out (by decide)) (fun _ hk => hk.2) (.slice Ao149 x191000_4.length co149)) (fun _ hk => hk.2) (.slice Ao152 x191001_4.length co152)) (fun _ hk => hk.2) (.int .i64 x191002_2)) (fun _ hk => hk.2) (.int .i64 x191003_4)) (fun _ hk => hk.2) (.int .i64 x191004_4)) (fun _ hk => hk.1), by (with_reducible repeat (first | apply Kd.R_alloc | apply Kd.R_drewN | apply Kd.R_drew)); exact Kd.R_mono (Kd.R_far (p := ⟨gb183, 4, none⟩) (Kd.R_far (p := ⟨gb183, 3, none⟩) (Kd.R_far (p := ⟨gb183, 2, none⟩) (Kd.R_far (p := ⟨gb183, 1, none⟩) (Kd.R_far (p := ⟨gb183, 0, none⟩) (Kd.R_types HO_191001.out BK183.out (by decide)) (fun _ hk => hk.2) (.slice Ao149 x191000_4.length co149)) (fun _ hk => hk.2) (.slice Ao152 x191001_4.length co152)) (fun _ hk => hk.2) (.int .i64 x191002_2)) (fun _ hk => hk.2) (.int .i64 x191003_4)) (fun _ hk => hk.2) (.int .i64 x191004_4)) (fun _ hk => hk.1), by repeat (first | (with_reducible first | exact HB.out | apply below_alloc | apply pw_below_drewN | apply below_drew1 | refine below_set ?_ GE182.out | refine below_set ?_ GE183.out | refine below_set ?_ GE190.out) | exact HB.out)⟩
    ·
     rw [if_neg c6] at H
     exact absurd H (by simp)
   ·
    rw [if_neg c5] at H
    exact absurd H (by simp)
  ·
   rw [if_neg c4] at H
   exact absurd H (by simp)
 ·
  rw [if_neg c3] at H
  exact absurd H (by simp)

end Go.Proofs.Ytddggnfbplekhaa.Q
