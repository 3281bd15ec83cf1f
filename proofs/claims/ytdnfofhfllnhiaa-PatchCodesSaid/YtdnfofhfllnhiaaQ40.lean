-- Written by drv.py and programs of this session. Not trusted: Lean checks it.
import Derived.Test.YtdnfofhfllnhiaaQD0
import Derived.Test.YtdnfofhfllnhiaaQB
import Derived.Test.YtdnfofhfllnhiaaQLC
import Derived.Test.YtdnfofhfllnhiaaHrg
-- Written by drv.py, a program of this session, over the kit's print, out of the translation. Not trusted: Lean checks it.
namespace Go.Proofs.Ytdnfofhfllnhiaa.Q
open Go.RowKit Go.Proofs.YtdnfofhfllnhiaaW.PrintWords Go.Proofs.YtdnfofhfllnhiaaW.PrintLast Go.Proofs.YtdnfofhfllnhiaaW.PrintMore
attribute [local go_sem] max2_int min2_int max_two min_two max_three min_three max_four min_four   -- for this text's walks alone
set_option linter.unusedVariables false
set_option linter.unusedSimpArgs false

theorem blkcC_5 {w : World} {g : Nat} {t : TypeId} {v0 v1 v2 v3 v4 : Value} (h : w.heap[g]? = some (.cells #[v0, v1, v2, v3, v4] t (0, 0))) : w.cell? ⟨g, 0, none⟩ = some v0 ∧ w.cell? ⟨g, 1, none⟩ = some v1 ∧ w.cell? ⟨g, 2, none⟩ = some v2 ∧ w.cell? ⟨g, 3, none⟩ = some v3 ∧ w.cell? ⟨g, 4, none⟩ = some v4 := ⟨(blk_cell h 0).trans rfl, (blk_cell h 1).trans rfl, (blk_cell h 2).trans rfl, (blk_cell h 3).trans rfl, (blk_cell h 4).trans rfl⟩
theorem blkfC_5 {w : World} {g : Nat} {t : TypeId} {cs : Array Value} (h : w.heap[g]? = some (.cells cs t (0, 0))) : w.frozen? ⟨g, 0, none⟩ = false ∧ w.frozen? ⟨g, 1, none⟩ = false ∧ w.frozen? ⟨g, 2, none⟩ = false ∧ w.frozen? ⟨g, 3, none⟩ = false ∧ w.frozen? ⟨g, 4, none⟩ = false := ⟨blk_frozen h 0, blk_frozen h 1, blk_frozen h 2, blk_frozen h 3, blk_frozen h 4⟩
set_option maxHeartbeats 8000000 in
set_option maxRecDepth 100000 in
theorem spliceref02_Put.calls (k : Nat) (a0_0 : Int) (a0_1 : Int) (a0_2 : Int) (a0_3 : Int) (a0_4 : Int) (r : Int) (w : World) (h : spliceref02_Put.f k a0_0 a0_1 a0_2 a0_3 a0_4 = some r) :
    Calls Try.prog 29 #[.agg #[.int .i64 a0_0, .int .i64 a0_1, .int .i64 a0_2, .int .i64 a0_3, .int .i64 a0_4]] w fun e w' => e = .returned (.int .u32 r) ∧ Below w.heap.size w w' := by
 have hu49 := Try.underlying49
 have HB := Aside0.mk (Below.refl w.heap.size w)
 have H : ((spliceref02_branch.f a0_0).bind fun t275 => (if t275 = true then (spliceref02_Put.j0 k 8 a0_0 a0_1 a0_2 a0_3 a0_4) else (spliceref02_Put.j0 k 16 a0_0 a0_1 a0_2 a0_3 a0_4))) = some r := h
 clear h
 replace H := Option.bind_eq_some_iff.mp H
 obtain ⟨t275, A20, H⟩ := H
 try dsimp only at H
 have A2 := Aside0.mk A20
 clear A20
 have HC3 := Aside0.mk H
 clear H
 go_enter Try.func29, Try.ntmps29
 go_upto_if 6 with (first | ((with_reducible refine gate_dst (N := 1) rfl ?_); refine box_event ?hg (N := 1) ?hd (cs := #[.int .i64 a0_0, .int .i64 a0_1, .int .i64 a0_2, .int .i64 a0_3, .int .i64 a0_4]) (t := 49) ?hr ?_; (case hd => rfl); (case hg => rfl); (case hr => first | (go_simp; done) | (go_simp; rfl)); intro gb274 hg w4 hbox hb; have n0_ := Aside0.mk (below_step (by apply_rules (transparency := .reducible) only [HB.out, below_alloc, pw_below_drewN, below_drew1]) hb); have n1_ := Aside0.mk (hbox); have n2_ := Aside0.mk ((by rw [hg]; exact (below_size (by apply_rules (transparency := .reducible) only [HB.out, below_alloc, pw_below_drewN, below_drew1])) : w.heap.size ≤ gb274)); have n3_ := Aside0.mk ((by rw [hg]; exact (below_size (by apply_rules (transparency := .reducible) only [HB.out, below_alloc, pw_below_drewN, below_drew1])) : w.heap.size ≤ gb274)); clear HB; have HB := n0_; have BK274 := n1_; have GW274 := n2_; have GE274 := n3_; clear n0_ n1_ n2_ n3_; clear hb hbox hg; obtain ⟨hcz5_0, hcz5_1, hcz5_2, hcz5_3, hcz5_4⟩ := blkcC_5 BK274.out; obtain ⟨hfz5_0, hfz5_1, hfz5_2, hfz5_3, hfz5_4⟩ := blkfC_5 BK274.out) | (go_at_call 37; (with_reducible refine (spliceref02_branch.calls a0_0 t275 _ A2.out).mono ?_); rintro e w' ⟨rfl, ⟨nd, rfl⟩⟩; (try first | exact ⟨rfl, _, World.drewN_drewN _ _ _⟩ | exact ⟨rfl, _, Eq.trans (World.drewN_drewN _ _ _) (congrArg (World.drewN _) (Nat.add_assoc _ _ _))⟩)))
 repeat (go_quiet (first | ((with_reducible refine gate_dst (N := 1) rfl ?_); refine box_event ?hg (N := 1) ?hd (cs := #[.int .i64 a0_0, .int .i64 a0_1, .int .i64 a0_2, .int .i64 a0_3, .int .i64 a0_4]) (t := 49) ?hr ?_; (case hd => rfl); (case hg => rfl); (case hr => first | (go_simp; done) | (go_simp; rfl)); intro gb274 hg w4 hbox hb; have n0_ := Aside0.mk (below_step (by apply_rules (transparency := .reducible) only [HB.out, below_alloc, pw_below_drewN, below_drew1]) hb); have n1_ := Aside0.mk (hbox); have n2_ := Aside0.mk ((by rw [hg]; exact (below_size (by apply_rules (transparency := .reducible) only [HB.out, below_alloc, pw_below_drewN, below_drew1])) : w.heap.size ≤ gb274)); have n3_ := Aside0.mk ((by rw [hg]; exact (below_size (by apply_rules (transparency := .reducible) only [HB.out, below_alloc, pw_below_drewN, below_drew1])) : w.heap.size ≤ gb274)); clear HB; have HB := n0_; have BK274 := n1_; have GW274 := n2_; have GE274 := n3_; clear n0_ n1_ n2_ n3_; clear hb hbox hg; obtain ⟨hcz5_0, hcz5_1, hcz5_2, hcz5_3, hcz5_4⟩ := blkcC_5 BK274.out; obtain ⟨hfz5_0, hfz5_1, hfz5_2, hfz5_3, hfz5_4⟩ := blkfC_5 BK274.out) | (go_at_call 37; (with_reducible refine (spliceref02_branch.calls a0_0 t275 _ A2.out).mono ?_); rintro e w' ⟨rfl, ⟨nd, rfl⟩⟩; (try first | exact ⟨rfl, _, World.drewN_drewN _ _ _⟩ | exact ⟨rfl, _, Eq.trans (World.drewN_drewN _ _ _) (congrArg (World.drewN _) (Nat.add_assoc _ _ _))⟩))); go_upto_if 6 with (first | ((with_reducible refine gate_dst (N := 1) rfl ?_); refine box_event ?hg (N := 1) ?hd (cs := #[.int .i64 a0_0, .int .i64 a0_1, .int .i64 a0_2, .int .i64 a0_3, .int .i64 a0_4]) (t := 49) ?hr ?_; (case hd => rfl); (case hg => rfl); (case hr => first | (go_simp; done) | (go_simp; rfl)); intro gb274 hg w4 hbox hb; have n0_ := Aside0.mk (below_step (by apply_rules (transparency := .reducible) only [HB.out, below_alloc, pw_below_drewN, below_drew1]) hb); have n1_ := Aside0.mk (hbox); have n2_ := Aside0.mk ((by rw [hg]; exact (below_size (by apply_rules (transparency := .reducible) only [HB.out, below_alloc, pw_below_drewN, below_drew1])) : w.heap.size ≤ gb274)); have n3_ := Aside0.mk ((by rw [hg]; exact (below_size (by apply_rules (transparency := .reducible) only [HB.out, below_alloc, pw_below_drewN, below_drew1])) : w.heap.size ≤ gb274)); clear HB; have HB := n0_; have BK274 := n1_; have GW274 := n2_; have GE274 := n3_; clear n0_ n1_ n2_ n3_; clear hb hbox hg; obtain ⟨hcz5_0, hcz5_1, hcz5_2, hcz5_3, hcz5_4⟩ := blkcC_5 BK274.out; obtain ⟨hfz5_0, hfz5_1, hfz5_2, hfz5_3, hfz5_4⟩ := blkfC_5 BK274.out) | (go_at_call 37; (with_reducible refine (spliceref02_branch.calls a0_0 t275 _ A2.out).mono ?_); rintro e w' ⟨rfl, ⟨nd, rfl⟩⟩; (try first | exact ⟨rfl, _, World.drewN_drewN _ _ _⟩ | exact ⟨rfl, _, Eq.trans (World.drewN_drewN _ _ _) (congrArg (World.drewN _) (Nat.add_assoc _ _ _))⟩))))
 (try simp only [Act.put, List.setIfInBounds_toArray, List.set_cons_zero, List.set_cons_succ])
 go_cut [3] (fun v3 wc => ∃ (kq : Nat) (x3_2 : Int), v3 = .int .i64 x3_2 ∧ Aside0 (spliceref02_Put.j0 kq x3_2 a0_0 a0_1 a0_2 a0_3 a0_4 = some r) ∧ Aside0 (kq ≤ k) ∧ Aside0 (wc.heap[gb274]? = some (.cells #[.int .i64 a0_0, .int .i64 a0_1, .int .i64 a0_2, .int .i64 a0_3, .int .i64 a0_4] 49 (0, 0))) ∧ Aside0 (Below w.heap.size w wc))
 case first =>
  have H := HC3.out
  clear HC3
  by_cases c6 : t275 = true
  ·
   subst c6
   rw [if_pos rfl] at H
   have H' := Aside0.mk H
   clear H
   go_wp2
   repeat (go_quiet (fail); try go_wp2)
   go_meet
   case rel => exact ⟨_, (8), (by first | rfl | (simp; done) | (simp [*]; done)), H', ⟨by first | omega | exact Nat.le_refl _⟩, ⟨by apply_rules (transparency := .reducible) only [blk_drewN, blk_drew, blk_alloc, BK274.out]⟩, ⟨by apply_rules (transparency := .reducible) only [HB.out, below_alloc, pw_below_drewN, below_drew1, below_set, GE274.out]⟩⟩
  ·
   replace c6 := Bool.eq_false_iff.mpr c6
   subst c6
   rw [if_neg Bool.false_ne_true] at H
   have H' := Aside0.mk H
   clear H
   go_wp2
   repeat (go_quiet (fail); try go_wp2)
   go_meet
   case rel => exact ⟨_, (16), (by first | rfl | (simp; done) | (simp [*]; done)), H', ⟨by first | omega | exact Nat.le_refl _⟩, ⟨by apply_rules (transparency := .reducible) only [blk_drewN, blk_drew, blk_alloc, BK274.out]⟩, ⟨by apply_rules (transparency := .reducible) only [HB.out, below_alloc, pw_below_drewN, below_drew1, below_set, GE274.out]⟩⟩
 case rest =>
  clear HC3
  (try clear c2); (try clear p2); (try clear c6); (try clear hcz5_0); (try clear hcz5_1); (try clear hcz5_2); (try clear hcz5_3); (try clear hcz5_4); (try clear hfz5_0); (try clear hfz5_1); (try clear hfz5_2); (try clear hfz5_3); (try clear hfz5_4)
  obtain ⟨kq, x3_2, rfl, HA, HJ2, BK274, HB⟩ := hcut
  cases kq with
  | zero => exact absurd HA.out (by simp [spliceref02_Put.j0])
  | succ kj2 =>
   have H := HA.out
   clear HA
   simp only [spliceref02_Put.j0] at H
   replace H := Option.bind_eq_some_iff.mp H
   obtain ⟨t276, A70, H⟩ := H
   try dsimp only at H
   have A7 := Aside0.mk A70
   clear A70
   by_cases c8 : t276 = true
   ·
    subst c8
    rw [if_pos rfl] at H
    replace H := Option.bind_eq_some_iff.mp H
    obtain ⟨t277, A90, H⟩ := H
    try dsimp only at H
    have A9 := Aside0.mk A90
    clear A90
    obtain rfl := Option.some.inj H
    obtain ⟨hcz10_0, hcz10_1, hcz10_2, hcz10_3, hcz10_4⟩ := blkcC_5 BK274.out
    obtain ⟨hfz10_0, hfz10_1, hfz10_2, hfz10_3, hfz10_4⟩ := blkfC_5 BK274.out
    iterate 4 ((try go_quiet (first | (go_at_call 33; (with_reducible refine (spliceref02_far.calls a0_0 true _ A7.out).mono ?_); rintro e w' ⟨rfl, ⟨nd, rfl⟩⟩; (try first | exact ⟨rfl, _, World.drewN_drewN _ _ _⟩ | exact ⟨rfl, _, Eq.trans (World.drewN_drewN _ _ _) (congrArg (World.drewN _) (Nat.add_assoc _ _ _))⟩)) | (go_at_call 46; (with_reducible refine (spliceref01_Cut.calls kj2 a0_4 24 t277 _ A9.out).mono ?_); rintro e w' ⟨rfl, ⟨nd, rfl⟩⟩; (try first | exact ⟨rfl, _, World.drewN_drewN _ _ _⟩ | exact ⟨rfl, _, Eq.trans (World.drewN_drewN _ _ _) (congrArg (World.drewN _) (Nat.add_assoc _ _ _))⟩)))); (try go_wp2_with (first | (go_at_call 33; (with_reducible refine (spliceref02_far.calls a0_0 true _ A7.out).mono ?_); rintro e w' ⟨rfl, ⟨nd, rfl⟩⟩; (try first | exact ⟨rfl, _, World.drewN_drewN _ _ _⟩ | exact ⟨rfl, _, Eq.trans (World.drewN_drewN _ _ _) (congrArg (World.drewN _) (Nat.add_assoc _ _ _))⟩)) | (go_at_call 46; (with_reducible refine (spliceref01_Cut.calls kj2 a0_4 24 t277 _ A9.out).mono ?_); rintro e w' ⟨rfl, ⟨nd, rfl⟩⟩; (try first | exact ⟨rfl, _, World.drewN_drewN _ _ _⟩ | exact ⟨rfl, _, Eq.trans (World.drewN_drewN _ _ _) (congrArg (World.drewN _) (Nat.add_assoc _ _ _))⟩)))))
    go_ret
    exact ⟨by first | rfl | (simp [errW_none, errW_some] <;> rfl) | (simp [*, errW_none, errW_some] <;> rfl), by apply_rules (transparency := .reducible) only [HB.out, below_alloc, pw_below_drewN, below_drew1, below_set, GE274.out]⟩
   ·
    replace c8 := Bool.eq_false_iff.mpr c8
    subst c8
    rw [if_neg Bool.false_ne_true] at H
    replace H := Option.bind_eq_some_iff.mp H
    obtain ⟨t278, A110, H⟩ := H
    try dsimp only at H
    have A11 := Aside0.mk A110
    clear A110
    obtain rfl := Option.some.inj H
    obtain ⟨hcz12_0, hcz12_1, hcz12_2, hcz12_3, hcz12_4⟩ := blkcC_5 BK274.out
    obtain ⟨hfz12_0, hfz12_1, hfz12_2, hfz12_3, hfz12_4⟩ := blkfC_5 BK274.out
    iterate 4 ((try go_quiet (first | (go_at_call 33; (with_reducible refine (spliceref02_far.calls a0_0 false _ A7.out).mono ?_); rintro e w' ⟨rfl, ⟨nd, rfl⟩⟩; (try first | exact ⟨rfl, _, World.drewN_drewN _ _ _⟩ | exact ⟨rfl, _, Eq.trans (World.drewN_drewN _ _ _) (congrArg (World.drewN _) (Nat.add_assoc _ _ _))⟩)) | (go_at_call 46; (with_reducible refine (spliceref01_Cut.calls kj2 a0_4 x3_2 t278 _ A11.out).mono ?_); rintro e w' ⟨rfl, ⟨nd, rfl⟩⟩; (try first | exact ⟨rfl, _, World.drewN_drewN _ _ _⟩ | exact ⟨rfl, _, Eq.trans (World.drewN_drewN _ _ _) (congrArg (World.drewN _) (Nat.add_assoc _ _ _))⟩)))); (try go_wp2_with (first | (go_at_call 33; (with_reducible refine (spliceref02_far.calls a0_0 false _ A7.out).mono ?_); rintro e w' ⟨rfl, ⟨nd, rfl⟩⟩; (try first | exact ⟨rfl, _, World.drewN_drewN _ _ _⟩ | exact ⟨rfl, _, Eq.trans (World.drewN_drewN _ _ _) (congrArg (World.drewN _) (Nat.add_assoc _ _ _))⟩)) | (go_at_call 46; (with_reducible refine (spliceref01_Cut.calls kj2 a0_4 x3_2 t278 _ A11.out).mono ?_); rintro e w' ⟨rfl, ⟨nd, rfl⟩⟩; (try first | exact ⟨rfl, _, World.drewN_drewN _ _ _⟩ | exact ⟨rfl, _, Eq.trans (World.drewN_drewN _ _ _) (congrArg (World.drewN _) (Nat.add_assoc _ _ _))⟩)))))
    go_ret
    exact ⟨by first | rfl | (simp [errW_none, errW_some] <;> rfl) | (simp [*, errW_none, errW_some] <;> rfl), by apply_rules (transparency := .reducible) only [HB.out, below_alloc, pw_below_drewN, below_drew1, below_set, GE274.out]⟩

end Go.Proofs.Ytdnfofhfllnhiaa.Q

-- Written by drv.py, a program of this session, over the kit's print, out of the translation. Not trusted: Lean checks it.
namespace Go.Proofs.Ytdnfofhfllnhiaa.Q
open Go.RowKit Go.Proofs.YtdnfofhfllnhiaaW.PrintWords Go.Proofs.YtdnfofhfllnhiaaW.PrintLast Go.Proofs.YtdnfofhfllnhiaaW.PrintMore
attribute [local go_sem] max2_int min2_int max_two min_two max_three min_three max_four min_four   -- for this text's walks alone
set_option linter.unusedVariables false
set_option linter.unusedSimpArgs false

def spliceref13_Code.T10 : Bool × List (List Nat × List Nat) := (true, [([], []), ([0], [0]), ([], []), ([2], [2]), ([1, 3], [1, 3]), ([4], [4]), ([], []), ([6], [6]), ([], []), ([7, 8], [7, 8]), ([9], [9]), ([], []), ([11], [11]), ([10, 12], [10, 12]), ([13], [13]), ([5, 14], [5, 14]), ([0, 1, 2, 3, 4, 5, 6, 7, 8, 9, 10, 11, 12, 13, 14, 15], []), ([16, 15, 0, 1, 2, 3, 4, 5, 6, 7, 8, 9, 10, 11, 12, 13, 14, 15], [15, 16])])
def spliceref13_Code.B10 : List Nat := [0, 1, 0, 4, 15, 31, 0, 64, 0, 448, 960, 0, 2048, 8128, 16320, 32767, 65535, 131071]
theorem blkc40_3 {w : World} {g : Nat} {t : TypeId} {v0 v1 v2 : Value} (h : w.heap[g]? = some (.cells #[v0, v1, v2] t (0, 0))) : w.cell? ⟨g, 0, none⟩ = some v0 ∧ w.cell? ⟨g, 1, none⟩ = some v1 ∧ w.cell? ⟨g, 2, none⟩ = some v2 := ⟨(blk_cell h 0).trans rfl, (blk_cell h 1).trans rfl, (blk_cell h 2).trans rfl⟩
theorem blkc40_4 {w : World} {g : Nat} {t : TypeId} {v0 v1 v2 v3 : Value} (h : w.heap[g]? = some (.cells #[v0, v1, v2, v3] t (0, 0))) : w.cell? ⟨g, 0, none⟩ = some v0 ∧ w.cell? ⟨g, 1, none⟩ = some v1 ∧ w.cell? ⟨g, 2, none⟩ = some v2 ∧ w.cell? ⟨g, 3, none⟩ = some v3 := ⟨(blk_cell h 0).trans rfl, (blk_cell h 1).trans rfl, (blk_cell h 2).trans rfl, (blk_cell h 3).trans rfl⟩
theorem blkc40_5 {w : World} {g : Nat} {t : TypeId} {v0 v1 v2 v3 v4 : Value} (h : w.heap[g]? = some (.cells #[v0, v1, v2, v3, v4] t (0, 0))) : w.cell? ⟨g, 0, none⟩ = some v0 ∧ w.cell? ⟨g, 1, none⟩ = some v1 ∧ w.cell? ⟨g, 2, none⟩ = some v2 ∧ w.cell? ⟨g, 3, none⟩ = some v3 ∧ w.cell? ⟨g, 4, none⟩ = some v4 := ⟨(blk_cell h 0).trans rfl, (blk_cell h 1).trans rfl, (blk_cell h 2).trans rfl, (blk_cell h 3).trans rfl, (blk_cell h 4).trans rfl⟩
theorem blkf40_3 {w : World} {g : Nat} {t : TypeId} {cs : Array Value} (h : w.heap[g]? = some (.cells cs t (0, 0))) : w.frozen? ⟨g, 0, none⟩ = false ∧ w.frozen? ⟨g, 1, none⟩ = false ∧ w.frozen? ⟨g, 2, none⟩ = false := ⟨blk_frozen h 0, blk_frozen h 1, blk_frozen h 2⟩
theorem blkf40_4 {w : World} {g : Nat} {t : TypeId} {cs : Array Value} (h : w.heap[g]? = some (.cells cs t (0, 0))) : w.frozen? ⟨g, 0, none⟩ = false ∧ w.frozen? ⟨g, 1, none⟩ = false ∧ w.frozen? ⟨g, 2, none⟩ = false ∧ w.frozen? ⟨g, 3, none⟩ = false := ⟨blk_frozen h 0, blk_frozen h 1, blk_frozen h 2, blk_frozen h 3⟩
theorem blkf40_5 {w : World} {g : Nat} {t : TypeId} {cs : Array Value} (h : w.heap[g]? = some (.cells cs t (0, 0))) : w.frozen? ⟨g, 0, none⟩ = false ∧ w.frozen? ⟨g, 1, none⟩ = false ∧ w.frozen? ⟨g, 2, none⟩ = false ∧ w.frozen? ⟨g, 3, none⟩ = false ∧ w.frozen? ⟨g, 4, none⟩ = false := ⟨blk_frozen h 0, blk_frozen h 1, blk_frozen h 2, blk_frozen h 3, blk_frozen h 4⟩
theorem halt_40 {G : Prop} (k : ∀ P : Prop, Aside0 (P = G) → P) : G := k G ⟨rfl⟩
theorem spliceref13_Code.tab10 : rtab .any (opsOf Try.f12 10) = spliceref13_Code.T10 := by kernel_rfl
theorem spliceref13_Code.bits10 : waitsOk spliceref13_Code.T10.2 spliceref13_Code.B10 = true := by kernel_rfl
def spliceref13_Code.T13 : Bool × List (List Nat × List Nat) := (true, [([], []), ([0], [0]), ([], []), ([2], [2]), ([1, 3], [1, 3]), ([4], [4]), ([5], [5]), ([], []), ([7], [7]), ([6, 8], [6, 8]), ([9, 0, 1, 2, 3, 4, 5, 6, 7, 8, 9], [9])])
def spliceref13_Code.B13 : List Nat := [0, 1, 0, 4, 15, 31, 63, 0, 128, 511, 1023]
theorem spliceref13_Code.tab13 : rtab .any (opsOf Try.f12 13) = spliceref13_Code.T13 := by kernel_rfl
theorem spliceref13_Code.bits13 : waitsOk spliceref13_Code.T13.2 spliceref13_Code.B13 = true := by kernel_rfl
set_option maxHeartbeats 8000000 in
set_option maxRecDepth 100000 in
theorem spliceref13_Code.calls (k : Nat) (A0_0 : Option Addr) (c0_0 : Nat) (l0_0 : List (S44)) (A0_1 : Option Addr) (c0_1 : Nat) (l0_1 : List (S55)) (a0_2 : Int) (A1_0 : Option Addr) (c1_0 : Nat) (l1_0 : List Int) (A1_1 : Option Addr) (c1_1 : Nat) (l1_1 : List Int) (a1_2 : Int) (a1_3 : Int) (a1_4 : Int) (a2 : Int) (r1 : List Int) (r2 : Int) (w : World) (hr0_0 : Kd.C k44 w A0_0 l0_0.length l0_0) (hc0_0 : l0_0.length ≤ c0_0) (hr0_1 : Kd.C k55 w A0_1 l0_1.length l0_1) (hc0_1 : l0_1.length ≤ c0_1) (hr1_0 : Kd.C (Kd.int .i64) w A1_0 l1_0.length l1_0) (hc1_0 : l1_0.length ≤ c1_0) (hr1_1 : Kd.C (Kd.int .i64) w A1_1 l1_1.length l1_1) (hc1_1 : l1_1.length ≤ c1_1) (h : spliceref13_Code.f k l0_0 l0_1 a0_2 l1_0 l1_1 a1_2 a1_3 a1_4 a2 = some (r1, r2)) :
    Calls Try.prog 12 #[.agg #[.slice A0_0 l0_0.length c0_0, .slice A0_1 l0_1.length c0_1, .int .i64 a0_2], .agg #[.slice A1_0 l1_0.length c1_0, .slice A1_1 l1_1.length c1_1, .int .i64 a1_2, .int .i64 a1_3, .int .i64 a1_4], .int .i64 a2] w fun e w' => ∃ v0_ : Value, e = .returned (.tuple #[v0_, .int .i64 r2]) ∧ Kd.R (Kd.int .u32) 47 w' w.heap.size (fun _ => True) v0_ r1 ∧ Below w.heap.size w w' := by
 have hu25 := Try.underlying25
 have hu30 := Try.underlying30
 have hu46 := Try.underlying46
 have hu49 := Try.underlying49
 have HR0_0 := Aside0.mk hr0_0
 have HC0_0 := Aside0.mk hc0_0
 clear hr0_0 hc0_0
 have HR0_1 := Aside0.mk hr0_1
 have HC0_1 := Aside0.mk hc0_1
 clear hr0_1 hc0_1
 have HR1_0 := Aside0.mk hr1_0
 have HC1_0 := Aside0.mk hc1_0
 clear hr1_0 hc1_0
 have HR1_1 := Aside0.mk hr1_1
 have HC1_1 := Aside0.mk hc1_1
 clear hr1_1 hc1_1
 have HB := Aside0.mk (Below.refl w.heap.size w)
 have H : ((some (([] : List Int) : List Int)).bind fun y281 => (if 0 ≤ a2 then (if a2 < (l0_0.length : Int) then (if y281.length + ((rd_T44 l0_0 a2).f3).length < 35184372088832 then (spliceref13_Code.l0 k a2 (y281 ++ ((rd_T44 l0_0 a2).f3)) 0 l0_0 l0_1 a0_2 l1_0 l1_1 a1_2 a1_3 a1_4) else (none)) else (none)) else (none))) = some (r1, r2) := h
 clear h
 obtain ⟨y281, hy281⟩ : ∃ y_ : List Int, y_ = (([] : List Int)) := ⟨_, rfl⟩
 (first | rw [Option.bind_some, ← hy281] at H | rw [← hy281] at H | skip)
 have Ny281 := Aside0.mk hy281
 clear hy281
 by_cases c4 : 0 ≤ a2
 case neg =>
  rw [if_neg c4] at H
  exact absurd H (by simp)

 rw [if_pos c4] at H
 have c4b0 : decide (0 ≤ a2) = true := decide_eq_true c4
 clear c4
 by_cases c5 : a2 < (l0_0.length : Int)
 case neg =>
  rw [if_neg c5] at H
  exact absurd H (by simp)
 rw [if_pos c5] at H
 have c5b0 : decide (a2 < (l0_0.length : Int)) = true := decide_eq_true c5
 clear c5
 by_cases c6 : y281.length + ((rd_T44 l0_0 a2).f3).length < 35184372088832
 case neg =>
  rw [if_neg c6] at H
  exact absurd H (by simp)
 rw [if_pos c6] at H
 have LMc6 := Aside0.mk c6
 clear c6
 obtain ⟨y285, hy285⟩ : ∃ y_ : List Int, y_ = (y281 ++ ((rd_T44 l0_0 a2).f3)) := ⟨_, rfl⟩
 (first | rw [Option.bind_some, ← hy285] at H | rw [← hy285] at H | skip)
 have Ny285 := Aside0.mk hy285
 clear hy285
 have H' := Aside0.mk H
 clear H
 go_enter Try.func12, Try.ntmps12
 go_wp2_with (first | ((with_reducible refine gate_dst (N := 3) rfl ?_); refine box_event ?hg (N := 3) ?hd (cs := #[.slice A0_0 l0_0.length c0_0, .slice A0_1 l0_1.length c0_1, .int .i64 a0_2]) (t := 25) ?hr ?_; (case hd => rfl); (case hg => rfl); (case hr => first | (go_simp; done) | (go_simp; rfl)); intro gb279 hg w7 hbox hb; have n0_ := Aside0.mk (below_step (by repeat (first | (with_reducible first | exact HB.out | apply below_alloc | apply pw_below_drewN | apply below_drew1) | exact HB.out)) hb); have n1_ := Aside0.mk (hbox); have n2_ := Aside0.mk ((by rw [hg]; exact (below_size (by repeat (first | (with_reducible first | exact HB.out | apply below_alloc | apply pw_below_drewN | apply below_drew1) | exact HB.out))) : w.heap.size ≤ gb279)); have n3_ := Aside0.mk ((by rw [hg]; exact (below_size (by repeat (first | (with_reducible first | exact HB.out | apply below_alloc | apply pw_below_drewN | apply below_drew1) | exact HB.out))) : w.heap.size ≤ gb279)); clear HB; have HB := n0_; have BK279 := n1_; have GW279 := n2_; have GE279 := n3_; clear n0_ n1_ n2_ n3_; clear hb hbox hg) | ((with_reducible refine gate_dst (N := 4) rfl ?_); refine box_event ?hg (N := 4) ?hd (cs := #[.slice A1_0 l1_0.length c1_0, .slice A1_1 l1_1.length c1_1, .int .i64 a1_2, .int .i64 a1_3, .int .i64 a1_4]) (t := 30) ?hr ?_; (case hd => rfl); (case hg => rfl); (case hr => first | (go_simp; done) | (go_simp; rfl)); intro gb280 hg w8 hbox hb; have n0_ := Aside0.mk (blk_below (g := gb279) (o := .cells #[.slice A0_0 l0_0.length c0_0, .slice A0_1 l0_1.length c0_1, .int .i64 a0_2] 25 (0, 0)) (by (with_reducible repeat (first | refine blk_drewN ?_ _ | refine blk_drew ?_ | refine blk_alloc ?_ _)); exact BK279.out) hb); have n1_ := Aside0.mk (below_step (by repeat (first | (with_reducible first | exact HB.out | apply below_alloc | apply pw_below_drewN | apply below_drew1 | refine below_set ?_ GE279.out) | exact HB.out)) hb); have n2_ := Aside0.mk (hbox); have n3_ := Aside0.mk ((by rw [hg]; exact (below_size (by repeat (first | (with_reducible first | exact HB.out | apply below_alloc | apply pw_below_drewN | apply below_drew1 | refine below_set ?_ GE279.out) | exact HB.out))) : w.heap.size ≤ gb280)); have n4_ := Aside0.mk ((by rw [hg]; exact (below_size (by repeat (first | (with_reducible first | exact HB.out | apply below_alloc | apply pw_below_drewN | apply below_drew1 | refine below_set ?_ GE279.out) | exact HB.out))) : w.heap.size ≤ gb280)); have n5_ := Aside0.mk ((by rw [hg]; exact Nat.ne_of_lt (blk_lt (g := gb279) (o := .cells #[.slice A0_0 l0_0.length c0_0, .slice A0_1 l0_1.length c0_1, .int .i64 a0_2] 25 (0, 0)) (by (with_reducible repeat (first | refine blk_drewN ?_ _ | refine blk_drew ?_ | refine blk_alloc ?_ _)); exact BK279.out)) : gb279 ≠ gb280)); have n6_ := Aside0.mk ((by rw [hg]; exact Nat.ne_of_gt (blk_lt (g := gb279) (o := .cells #[.slice A0_0 l0_0.length c0_0, .slice A0_1 l0_1.length c0_1, .int .i64 a0_2] 25 (0, 0)) (by (with_reducible repeat (first | refine blk_drewN ?_ _ | refine blk_drew ?_ | refine blk_alloc ?_ _)); exact BK279.out)) : gb280 ≠ gb279)); clear BK279; clear HB; have BK279 := n0_; have HB := n1_; have BK280 := n2_; have GW280 := n3_; have GE280 := n4_; have NB279_280 := n5_; have NB280_279 := n6_; clear n0_ n1_ n2_ n3_ n4_ n5_ n6_; clear hb hbox hg) | ((with_reducible refine gate_dst (N := 14) rfl ?_); refine Kd.R_lit (Kd.int .u32) _ 47 ?hg (N := 14) ?hd (xs := ([] : List Int)) (inner := []) (ok := fun _ => True) (okp := fun _ => True) ?hr ?hp (fun _ hk => hk) trivial (Below.refl _ _) (Nat.le_refl _) (by simp) ?_; (case hd => rfl); (case hg => rfl); (case hr => first | (go_simp; done) | (go_simp; rfl)); (case hp => exact (Reps.none _ _)); intro v282 w9 ho10 hb hg_ hnew_; clear hg_ hnew_; (first | rw [← Ny281.out] at ho10 | (simp only [Int.reduceToNat] at ho10; rw [← Ny281.out] at ho10)); have n0_ := Aside0.mk (Kd.R_lower ho10 (below_size (by repeat (first | (with_reducible first | exact HB.out | apply below_alloc | apply pw_below_drewN | apply below_drew1 | refine below_set ?_ GE279.out | refine below_set ?_ GE280.out) | exact HB.out)))); have n1_ := Aside0.mk (blk_below (g := gb279) (o := .cells #[.slice A0_0 l0_0.length c0_0, .slice A0_1 l0_1.length c0_1, .int .i64 a0_2] 25 (0, 0)) (by (with_reducible repeat (first | refine blk_drewN ?_ _ | refine blk_drew ?_ | refine blk_alloc ?_ _)); exact BK279.out) hb); have n2_ := Aside0.mk (blk_below (g := gb280) (o := .cells #[.slice A1_0 l1_0.length c1_0, .slice A1_1 l1_1.length c1_1, .int .i64 a1_2, .int .i64 a1_3, .int .i64 a1_4] 30 (0, 0)) (by (with_reducible repeat (first | refine blk_drewN ?_ _ | refine blk_drew ?_ | refine blk_alloc ?_ _)); exact BK280.out) hb); have n3_ := Aside0.mk (below_step (by repeat (first | (with_reducible first | exact HB.out | apply below_alloc | apply pw_below_drewN | apply below_drew1 | refine below_set ?_ GE279.out | refine below_set ?_ GE280.out) | exact HB.out)) hb); clear BK279; clear BK280; clear HB; have HO283 := n0_; have BK279 := n1_; have BK280 := n2_; have HB := n3_; clear n0_ n1_ n2_ n3_; clear hb ho10; have hnb11 := NB279_280.out; have hnc11 := NB280_279.out; obtain ⟨hcz12_0, hcz12_1, hcz12_2⟩ := blkc40_3 BK279.out; obtain ⟨hfz12_0, hfz12_1, hfz12_2⟩ := blkf40_3 BK279.out; have p284 : 0 ≤ (a2 : Int) := of_decide_eq_true (by first | (with_reducible assumption) | assumption); have q284 : a2 < (l0_0.length : Int) := of_decide_eq_true (by first | (with_reducible assumption) | assumption); obtain ⟨ad284, A284_3, c284_3, A284_4, c284_4, e284, hx284_0, hx284_1, hx284_2, hx284_3, hx284_4, hl284_3, hi284_3, hl284_4, hi284_4⟩ := at_T44 HR0_0.out a2 p284 q284; cases e284; replace hx284_0 := (HB.out.cell (World.block_lt_of_cell? w _ hx284_0)).trans hx284_0; replace hx284_1 := (HB.out.cell (World.block_lt_of_cell? w _ hx284_1)).trans hx284_1; replace hx284_2 := (HB.out.cell (World.block_lt_of_cell? w _ hx284_2)).trans hx284_2; replace hx284_3 := (HB.out.cell (World.block_lt_of_cell? w _ hx284_3)).trans hx284_3; replace hx284_4 := (HB.out.cell (World.block_lt_of_cell? w _ hx284_4)).trans hx284_4; have HR284_3 := Aside0.mk hi284_3; have HC284_3 := Aside0.mk hl284_3; clear hi284_3 hl284_3; have HR284_4 := Aside0.mk hi284_4; have HC284_4 := Aside0.mk hl284_4; clear hi284_4 hl284_4; replace p284 := eq_true p284; replace q284 := eq_true q284) | ((with_reducible refine gate_builtin (b := .append) (xs := #[.tmp 14, .tmp 20]) rfl ?_); at_builtin; refine Kd.R_append_rows (Kd.int .u32) (w0 := w) w.heap.size rfl (.tmp 14) (.tmp 20) 34 47 (.int .u32 0) 4 rfl Try.underlying34 info47 rfl (by decide) (by omega) v282 y281 ((rd_T44 l0_0 a2).f3) _ _ _ (fun _ => True) (fun _ => False) rfl rfl ?aO ?aR (fun _ _ h => h) (fun _ h => h.elim) ?aF ?aB ?aS ?aL ?_; (case aR => repeat (first | exact (Kd.C_below HR284_3.out HB.out) | (with_reducible refine Kd.C_alloc ?_ _) | (with_reducible refine Kd.C_drewN ?_ _) | (with_reducible refine Kd.C_drew ?_))); (case aB => exact (by repeat (first | (with_reducible first | exact HB.out | apply below_alloc | apply pw_below_drewN | apply below_drew1 | refine below_set ?_ GE279.out | refine below_set ?_ GE280.out) | exact HB.out))); (case aF => exact (fun _ _ => trivial)); (case aO => exact (by (with_reducible repeat (first | apply Kd.R_alloc | apply Kd.R_drewN | apply Kd.R_drew)); exact HO283.out)); (case aS => exact (below_size (by repeat (first | (with_reducible first | exact HB.out | apply below_alloc | apply pw_below_drewN | apply below_drew1 | refine below_set ?_ GE279.out | refine below_set ?_ GE280.out) | exact HB.out)))); (case aL => have := LMc6.out; omega); intro v286 w13 ho hb hg hat; rw [← Ny285.out] at ho; have n0_ := Aside0.mk (blk_grown (g := gb279) (o := .cells #[.slice (some ad284) l0_0.length c0_0, .slice A0_1 l0_1.length c0_1, .int .i64 a0_2] 25 (0, 0)) (by (with_reducible repeat (first | refine blk_drewN ?_ _ | refine blk_drew ?_ | refine blk_alloc ?_ _)); exact BK279.out) hg (Kd.R_ne HO283.out BK279.out (by decide))); have n1_ := Aside0.mk (blk_grown (g := gb280) (o := .cells #[.slice A1_0 l1_0.length c1_0, .slice A1_1 l1_1.length c1_1, .int .i64 a1_2, .int .i64 a1_3, .int .i64 a1_4] 30 (0, 0)) (by (with_reducible repeat (first | refine blk_drewN ?_ _ | refine blk_drew ?_ | refine blk_alloc ?_ _)); exact BK280.out) hg (Kd.R_ne HO283.out BK280.out (by decide))); have n2_ := Aside0.mk (hb); have n3_ := Aside0.mk (ho); clear BK279; clear BK280; clear HB; clear HO283; have BK279 := n0_; have BK280 := n1_; have HB := n2_; have HO287 := n3_; clear n0_ n1_ n2_ n3_; clear ho hb hg hat))
 go_loopg [9] k (fun kq v9 w' => ∃ (x8_1 : List Int) (x9_1 : Int), v9 = .int .i64 x9_1 ∧ Aside0 (spliceref13_Code.l0 kq a2 x8_1 x9_1 l0_0 l0_1 a0_2 l1_0 l1_1 a1_2 a1_3 a1_4 = some (r1, r2)) ∧ Aside0 (kq ≤ k) ∧ Aside0 (Kd.R (Kd.int .u32) 47 w' w.heap.size (fun _ => True) v286 x8_1) ∧ Aside0 (w'.heap[gb279]? = some (.cells #[(.slice (some ad284) l0_0.length c0_0), (.slice A0_1 l0_1.length c0_1), .int .i64 a0_2] 25 (0, 0))) ∧ Aside0 (w'.heap[gb280]? = some (.cells #[(.slice A1_0 l1_0.length c1_0), (.slice A1_1 l1_1.length c1_1), .int .i64 a1_2, .int .i64 a1_3, .int .i64 a1_4] 30 (0, 0))) ∧ Aside0 (Below w.heap.size w w'))
 case atStart => exact ⟨(y285), (0), (by first | rfl | (simp; done) | (simp [*]; done)), H', ⟨Nat.le_refl _⟩, ⟨by (with_reducible repeat (first | apply Kd.R_alloc | apply Kd.R_drewN | apply Kd.R_drew)); exact HO287.out⟩, ⟨by (with_reducible repeat (first | refine blk_drewN ?_ _ | refine blk_drew ?_ | refine blk_alloc ?_ _)); exact BK279.out⟩, ⟨by (with_reducible repeat (first | refine blk_drewN ?_ _ | refine blk_drew ?_ | refine blk_alloc ?_ _)); exact BK280.out⟩, ⟨by repeat (first | (with_reducible first | exact HB.out | apply below_alloc | apply pw_below_drewN | apply below_drew1 | refine below_set ?_ GE279.out | refine below_set ?_ GE280.out) | exact HB.out)⟩⟩
 case round =>
  clear H'
  (try clear c1); (try clear c2); (try clear p2); (try clear q2); (try clear hx2); (try clear c4); (try clear c4b0); (try clear c5); (try clear c5b0); (try clear c6); (try clear c11); (try clear c12); (try clear hcz12_0); (try clear hcz12_1); (try clear hcz12_2); (try clear hfz12_0); (try clear hfz12_1); (try clear hfz12_2); (try clear hx284_0); (try clear hx284_1); (try clear hx284_2); (try clear hx284_3); (try clear hx284_4); (try clear p284); (try clear q284)
  obtain ⟨x8_1, x9_1, rfl, HA, HK1, HO_8, BK279, BK280, HB⟩ := hrel
  cases gk with
  | zero => exact absurd HA.out (by simp [spliceref13_Code.l0])
  | succ k1 =>
   have H := HA.out
   clear HA
   simp only [spliceref13_Code.l0] at H
   by_cases c14 : 0 ≤ a2
   case neg =>
    rw [if_neg c14] at H
    exact absurd H (by simp)
   rw [if_pos c14] at H
   have c14b0 : decide (0 ≤ a2) = true := decide_eq_true c14
   clear c14
   by_cases c15 : a2 < (l0_0.length : Int)
   case neg =>
    rw [if_neg c15] at H
    exact absurd H (by simp)
   rw [if_pos c15] at H
   have c15b0 : decide (a2 < (l0_0.length : Int)) = true := decide_eq_true c15
   clear c15
   by_cases c16 : x9_1 < (((rd_T44 l0_0 a2).f4).length : Int)
   ·
    rw [if_pos c16] at H
    have c16b0 : decide (x9_1 < (((rd_T44 l0_0 a2).f4).length : Int)) = true := decide_eq_true c16
    clear c16
    by_cases c17 : 0 ≤ x9_1
    case neg =>
     rw [if_neg c17] at H
     exact absurd H (by simp)
    rw [if_pos c17] at H
    have c17b0 : decide (0 ≤ x9_1) = true := decide_eq_true c17
    clear c17
    by_cases c18 : 0 ≤ ((rd_T46 ((rd_T44 l0_0 a2).f4) x9_1).f0)
    case neg =>
     rw [if_neg c18] at H
     exact absurd H (by simp)
    rw [if_pos c18] at H
    have c18b0 : decide (0 ≤ ((rd_T46 ((rd_T44 l0_0 a2).f4) x9_1).f0)) = true := decide_eq_true c18
    clear c18
    by_cases c19 : ((rd_T46 ((rd_T44 l0_0 a2).f4) x9_1).f0) < (x8_1.length : Int)
    case neg =>
     rw [if_neg c19] at H
     exact absurd H (by simp)
    rw [if_pos c19] at H
    have c19b0 : decide (((rd_T46 ((rd_T44 l0_0 a2).f4) x9_1).f0) < (x8_1.length : Int)) = true := decide_eq_true c19
    clear c19
    replace H := Option.bind_eq_some_iff.mp H
    obtain ⟨⟨t293, t294, t295, t296, t297, t298⟩, A200, H⟩ := H
    try dsimp only at H
    have A20 := Aside0.mk A200
    clear A200
    by_cases c21 : ((rd_T46 ((rd_T44 l0_0 a2).f4) x9_1).f1) = 1
    ·
     rw [if_pos c21] at H
     have c21b0 : (((rd_T46 ((rd_T44 l0_0 a2).f4) x9_1).f1) == 1) = true := beq_iff_eq.mpr c21
     have c21b1 : (((rd_T46 ((rd_T44 l0_0 a2).f4) x9_1).f1) != 1) = false := bne_eq_false_iff_eq.mpr c21
     clear c21
     by_cases c22 : 0 ≤ ((rd_T46 ((rd_T44 l0_0 a2).f4) x9_1).f2)
     case neg =>
      rw [if_neg c22] at H
      exact absurd H (by simp)
     rw [if_pos c22] at H
     have c22b0 : decide (0 ≤ ((rd_T46 ((rd_T44 l0_0 a2).f4) x9_1).f2)) = true := decide_eq_true c22
     clear c22
     by_cases c23 : ((rd_T46 ((rd_T44 l0_0 a2).f4) x9_1).f2) < (l1_0.length : Int)
     case neg =>
      rw [if_neg c23] at H
      exact absurd H (by simp)
     rw [if_pos c23] at H
     have c23b0 : decide (((rd_T46 ((rd_T44 l0_0 a2).f4) x9_1).f2) < (l1_0.length : Int)) = true := decide_eq_true c23
     clear c23
     have hnb25 := NB279_280.out
     have hnc25 := NB280_279.out
     obtain ⟨hcz26_0, hcz26_1, hcz26_2⟩ := blkc40_3 BK279.out
     obtain ⟨hfz26_0, hfz26_1, hfz26_2⟩ := blkf40_3 BK279.out
     have p288 : 0 ≤ (a2 : Int) := of_decide_eq_true (by first | (with_reducible assumption) | assumption)
     have q288 : a2 < (l0_0.length : Int) := of_decide_eq_true (by first | (with_reducible assumption) | assumption)
     obtain ⟨ad288, A288_3, c288_3, A288_4, c288_4, e288, hx288_0, hx288_1, hx288_2, hx288_3, hx288_4, hl288_3, hi288_3, hl288_4, hi288_4⟩ := at_T44 HR0_0.out a2 p288 q288
     obtain rfl : ad284 = ad288 := (by injection e288)
     replace hx288_0 := (HB.out.cell (World.block_lt_of_cell? w _ hx288_0)).trans hx288_0
     replace hx288_1 := (HB.out.cell (World.block_lt_of_cell? w _ hx288_1)).trans hx288_1
     replace hx288_2 := (HB.out.cell (World.block_lt_of_cell? w _ hx288_2)).trans hx288_2
     replace hx288_3 := (HB.out.cell (World.block_lt_of_cell? w _ hx288_3)).trans hx288_3
     replace hx288_4 := (HB.out.cell (World.block_lt_of_cell? w _ hx288_4)).trans hx288_4
     have HR288_3 := Aside0.mk hi288_3
     have HC288_3 := Aside0.mk hl288_3
     clear hi288_3 hl288_3
     have HR288_4 := Aside0.mk hi288_4
     have HC288_4 := Aside0.mk hl288_4
     clear hi288_4 hl288_4
     replace p288 := eq_true p288
     replace q288 := eq_true q288
     have p289 : 0 ≤ (a2 : Int) := of_decide_eq_true (by first | (with_reducible assumption) | assumption)
     have q289 : a2 < (l0_0.length : Int) := of_decide_eq_true (by first | (with_reducible assumption) | assumption)
     obtain ⟨ad289, A289_3, c289_3, A289_4, c289_4, e289, hx289_0, hx289_1, hx289_2, hx289_3, hx289_4, hl289_3, hi289_3, hl289_4, hi289_4⟩ := at_T44 HR0_0.out a2 p289 q289
     obtain rfl : ad284 = ad289 := (by injection e289)
     replace hx289_0 := (HB.out.cell (World.block_lt_of_cell? w _ hx289_0)).trans hx289_0
     replace hx289_1 := (HB.out.cell (World.block_lt_of_cell? w _ hx289_1)).trans hx289_1
     replace hx289_2 := (HB.out.cell (World.block_lt_of_cell? w _ hx289_2)).trans hx289_2
     replace hx289_3 := (HB.out.cell (World.block_lt_of_cell? w _ hx289_3)).trans hx289_3
     replace hx289_4 := (HB.out.cell (World.block_lt_of_cell? w _ hx289_4)).trans hx289_4
     have HR289_3 := Aside0.mk hi289_3
     have HC289_3 := Aside0.mk hl289_3
     clear hi289_3 hl289_3
     have HR289_4 := Aside0.mk hi289_4
     have HC289_4 := Aside0.mk hl289_4
     clear hi289_4 hl289_4
     replace p289 := eq_true p289
     replace q289 := eq_true q289
     have ea_ := Option.some.inj (hx288_3.symm.trans hx289_3)
     injection ea_ with ea_ en_ ec_
     subst ea_
     subst ec_
     clear en_
     have ea_ := Option.some.inj (hx288_4.symm.trans hx289_4)
     injection ea_ with ea_ en_ ec_
     subst ea_
     subst ec_
     clear en_
     have p290 : 0 ≤ (x9_1 : Int) := of_decide_eq_true (by first | (with_reducible assumption) | assumption)
     have q290 : x9_1 < (((rd_T44 l0_0 a2).f4).length : Int) := of_decide_eq_true (by first | (with_reducible assumption) | assumption)
     obtain ⟨ad290, e290, hx290_0, hx290_1, hx290_2, hx290_3⟩ := at_T46 HR289_4.out x9_1 p290 q290
     cases e290
     replace hx290_0 := (HB.out.cell (World.block_lt_of_cell? w _ hx290_0)).trans hx290_0
     replace hx290_1 := (HB.out.cell (World.block_lt_of_cell? w _ hx290_1)).trans hx290_1
     replace hx290_2 := (HB.out.cell (World.block_lt_of_cell? w _ hx290_2)).trans hx290_2
     replace hx290_3 := (HB.out.cell (World.block_lt_of_cell? w _ hx290_3)).trans hx290_3
     replace p290 := eq_true p290
     replace q290 := eq_true q290
     go_wp2_with (first | ((with_reducible refine gate_dst (N := 10) rfl ?_); refine box_event ?hg (N := 10) ?hd (cs := #[.int .i64 0, .int .i64 0, .int .i64 0, .int .i64 0]) (t := 46) ?hr ?_; (case hd => rfl); (case hg => rfl); (case hr => first | (go_simp; done) | (go_simp; rfl)); intro gb291 hg w27 hbox hb; have n0_ := Aside0.mk (Kd.R_below (by (with_reducible repeat (first | apply Kd.R_alloc | apply Kd.R_drewN | apply Kd.R_drew)); exact HO_8.out) hb); have n1_ := Aside0.mk (blk_below (g := gb279) (o := .cells #[.slice (some ad284) l0_0.length c0_0, .slice A0_1 l0_1.length c0_1, .int .i64 a0_2] 25 (0, 0)) (by (with_reducible repeat (first | refine blk_drewN ?_ _ | refine blk_drew ?_ | refine blk_alloc ?_ _)); exact BK279.out) hb); have n2_ := Aside0.mk (blk_below (g := gb280) (o := .cells #[.slice A1_0 l1_0.length c1_0, .slice A1_1 l1_1.length c1_1, .int .i64 a1_2, .int .i64 a1_3, .int .i64 a1_4] 30 (0, 0)) (by (with_reducible repeat (first | refine blk_drewN ?_ _ | refine blk_drew ?_ | refine blk_alloc ?_ _)); exact BK280.out) hb); have n3_ := Aside0.mk (below_step (by repeat (first | (with_reducible first | exact HB.out | apply below_alloc | apply pw_below_drewN | apply below_drew1 | refine below_set ?_ GE279.out | refine below_set ?_ GE280.out) | exact HB.out)) hb); have n4_ := Aside0.mk (hbox); have n5_ := Aside0.mk ((by rw [hg]; exact (below_size (by repeat (first | (with_reducible first | exact HB.out | apply below_alloc | apply pw_below_drewN | apply below_drew1 | refine below_set ?_ GE279.out | refine below_set ?_ GE280.out) | exact HB.out))) : w.heap.size ≤ gb291)); have n6_ := Aside0.mk ((by rw [hg]; exact (below_size (by repeat (first | (with_reducible first | exact HB.out | apply below_alloc | apply pw_below_drewN | apply below_drew1 | refine below_set ?_ GE279.out | refine below_set ?_ GE280.out) | exact HB.out))) : w.heap.size ≤ gb291)); have n7_ := Aside0.mk ((by rw [hg]; exact Nat.ne_of_lt (blk_lt (g := gb279) (o := .cells #[.slice (some ad284) l0_0.length c0_0, .slice A0_1 l0_1.length c0_1, .int .i64 a0_2] 25 (0, 0)) (by (with_reducible repeat (first | refine blk_drewN ?_ _ | refine blk_drew ?_ | refine blk_alloc ?_ _)); exact BK279.out)) : gb279 ≠ gb291)); have n8_ := Aside0.mk ((by rw [hg]; exact Nat.ne_of_gt (blk_lt (g := gb279) (o := .cells #[.slice (some ad284) l0_0.length c0_0, .slice A0_1 l0_1.length c0_1, .int .i64 a0_2] 25 (0, 0)) (by (with_reducible repeat (first | refine blk_drewN ?_ _ | refine blk_drew ?_ | refine blk_alloc ?_ _)); exact BK279.out)) : gb291 ≠ gb279)); have n9_ := Aside0.mk ((by rw [hg]; exact Nat.ne_of_lt (blk_lt (g := gb280) (o := .cells #[.slice A1_0 l1_0.length c1_0, .slice A1_1 l1_1.length c1_1, .int .i64 a1_2, .int .i64 a1_3, .int .i64 a1_4] 30 (0, 0)) (by (with_reducible repeat (first | refine blk_drewN ?_ _ | refine blk_drew ?_ | refine blk_alloc ?_ _)); exact BK280.out)) : gb280 ≠ gb291)); have n10_ := Aside0.mk ((by rw [hg]; exact Nat.ne_of_gt (blk_lt (g := gb280) (o := .cells #[.slice A1_0 l1_0.length c1_0, .slice A1_1 l1_1.length c1_1, .int .i64 a1_2, .int .i64 a1_3, .int .i64 a1_4] 30 (0, 0)) (by (with_reducible repeat (first | refine blk_drewN ?_ _ | refine blk_drew ?_ | refine blk_alloc ?_ _)); exact BK280.out)) : gb291 ≠ gb280)); clear HO_8; clear BK279; clear BK280; clear HB; have HO_8 := n0_; have BK279 := n1_; have BK280 := n2_; have HB := n3_; have BK291 := n4_; have GW291 := n5_; have GE291 := n6_; have NB279_291 := n7_; have NB291_279 := n8_; have NB280_291 := n9_; have NB291_280 := n10_; clear n0_ n1_ n2_ n3_ n4_ n5_ n6_ n7_ n8_ n9_ n10_; clear hb hbox hg; have hnb28 := NB291_279.out; have hnc28 := NB279_291.out; have hnb29 := NB291_280.out; have hnc29 := NB280_291.out; obtain ⟨hcz30_0, hcz30_1, hcz30_2, hcz30_3⟩ := blkc40_4 BK291.out; obtain ⟨hfz30_0, hfz30_1, hfz30_2, hfz30_3⟩ := blkf40_4 BK291.out; obtain ⟨Ao31, co31, eo31⟩ := Kd.R_slice HO_8.out; subst eo31; have p292 : 0 ≤ (((rd_T46 ((rd_T44 l0_0 a2).f4) x9_1).f0) : Int) := of_decide_eq_true (by first | (with_reducible assumption) | assumption); have q292 : ((rd_T46 ((rd_T44 l0_0 a2).f4) x9_1).f0) < (x8_1.length : Int) := of_decide_eq_true (by first | (with_reducible assumption) | assumption); obtain ⟨ad292, e292, hx292_0⟩ := Kd.at_int (Kd.R_reads' HO_8.out).2.2 ((rd_T46 ((rd_T44 l0_0 a2).f4) x9_1).f0) p292 q292; cases e292; have hn292_0 : ad292.block ≠ gb291 := Kd.own_blk (Kd.R_ne HO_8.out BK291.out (by decide)); have hn292_1 : ad292.block ≠ gb291 := Kd.own_blk (Kd.R_ne HO_8.out BK291.out (by decide)); have hn292_2 : ad292.block ≠ gb291 := Kd.own_blk (Kd.R_ne HO_8.out BK291.out (by decide)); have hn292_3 : ad292.block ≠ gb291 := Kd.own_blk (Kd.R_ne HO_8.out BK291.out (by decide)); replace hx292_0 := (cell_far (p := ⟨gb291, 0, none⟩) (by first | (rw [add_block]; exact hn292_0) | (show (Addr.add _ _).block ≠ _; rw [add_block]; exact hn292_0) | exact hn292_0) (.int .i64 ((rd_T46 ((rd_T44 l0_0 a2).f4) x9_1).f0))).trans hx292_0; replace hx292_0 := (cell_far (p := ⟨gb291, 1, none⟩) (by first | (rw [add_block]; exact hn292_1) | (show (Addr.add _ _).block ≠ _; rw [add_block]; exact hn292_1) | exact hn292_1) (.int .i64 ((rd_T46 ((rd_T44 l0_0 a2).f4) x9_1).f1))).trans hx292_0; replace hx292_0 := (cell_far (p := ⟨gb291, 2, none⟩) (by first | (rw [add_block]; exact hn292_2) | (show (Addr.add _ _).block ≠ _; rw [add_block]; exact hn292_2) | exact hn292_2) (.int .i64 ((rd_T46 ((rd_T44 l0_0 a2).f4) x9_1).f2))).trans hx292_0; replace hx292_0 := (cell_far (p := ⟨gb291, 3, none⟩) (by first | (rw [add_block]; exact hn292_3) | (show (Addr.add _ _).block ≠ _; rw [add_block]; exact hn292_3) | exact hn292_3) (.int .i64 ((rd_T46 ((rd_T44 l0_0 a2).f4) x9_1).f3))).trans hx292_0; clear hn292_0; clear hn292_1; clear hn292_2; clear hn292_3; replace p292 := eq_true p292; replace q292 := eq_true q292) | ((with_reducible refine gate_callee (f := 17) rfl ?_); refine goesL_ (some 48) rfl rfl Try.func17 (by kernel_rfl) rfl #[.int .u32 (rd x8_1 ((rd_T46 ((rd_T44 l0_0 a2).f4) x9_1).f0))] rfl (by (try simp only [List.map_toArray, List.map_cons, List.map_nil]); first | done | rfl | (simp only [List.length_drop, List.length_take]; rfl)) ?_; (with_reducible refine (spliceref02_Get.calls (rd x8_1 ((rd_T46 ((rd_T44 l0_0 a2).f4) x9_1).f0)) t293 t294 t295 t296 t297 t298 _ A20.out).mono ?_); rintro e w32 ⟨rfl, hb⟩; refine ⟨_, rfl, ?_⟩; have n0_ := Aside0.mk (Kd.R_below (by (with_reducible repeat (first | apply Kd.R_alloc | apply Kd.R_drewN | apply Kd.R_drew)); exact (Kd.R_mono (Kd.R_far (p := ⟨gb291, 3, none⟩) (Kd.R_far (p := ⟨gb291, 2, none⟩) (Kd.R_far (p := ⟨gb291, 1, none⟩) (Kd.R_far (p := ⟨gb291, 0, none⟩) (Kd.R_types HO_8.out BK291.out (by decide)) (fun _ hk => hk.2) (.int .i64 ((rd_T46 ((rd_T44 l0_0 a2).f4) x9_1).f0))) (fun _ hk => hk.2) (.int .i64 ((rd_T46 ((rd_T44 l0_0 a2).f4) x9_1).f1))) (fun _ hk => hk.2) (.int .i64 ((rd_T46 ((rd_T44 l0_0 a2).f4) x9_1).f2))) (fun _ hk => hk.2) (.int .i64 ((rd_T46 ((rd_T44 l0_0 a2).f4) x9_1).f3))) (fun _ h_ => h_.1))) hb); have n1_ := Aside0.mk (blk_below (g := gb279) (o := .cells #[.slice (some ad284) l0_0.length c0_0, .slice A0_1 l0_1.length c0_1, .int .i64 a0_2] 25 (0, 0)) (by (with_reducible repeat (first | refine blk_drewN ?_ _ | refine blk_drew ?_ | refine blk_alloc ?_ _)); refine blk_far ?_ NB279_291.out _; (with_reducible repeat (first | refine blk_drewN ?_ _ | refine blk_drew ?_ | refine blk_alloc ?_ _)); refine blk_far ?_ NB279_291.out _; (with_reducible repeat (first | refine blk_drewN ?_ _ | refine blk_drew ?_ | refine blk_alloc ?_ _)); refine blk_far ?_ NB279_291.out _; (with_reducible repeat (first | refine blk_drewN ?_ _ | refine blk_drew ?_ | refine blk_alloc ?_ _)); refine blk_far ?_ NB279_291.out _; (with_reducible repeat (first | refine blk_drewN ?_ _ | refine blk_drew ?_ | refine blk_alloc ?_ _)); exact BK279.out) hb); have n2_ := Aside0.mk (blk_below (g := gb280) (o := .cells #[.slice A1_0 l1_0.length c1_0, .slice A1_1 l1_1.length c1_1, .int .i64 a1_2, .int .i64 a1_3, .int .i64 a1_4] 30 (0, 0)) (by (with_reducible repeat (first | refine blk_drewN ?_ _ | refine blk_drew ?_ | refine blk_alloc ?_ _)); refine blk_far ?_ NB280_291.out _; (with_reducible repeat (first | refine blk_drewN ?_ _ | refine blk_drew ?_ | refine blk_alloc ?_ _)); refine blk_far ?_ NB280_291.out _; (with_reducible repeat (first | refine blk_drewN ?_ _ | refine blk_drew ?_ | refine blk_alloc ?_ _)); refine blk_far ?_ NB280_291.out _; (with_reducible repeat (first | refine blk_drewN ?_ _ | refine blk_drew ?_ | refine blk_alloc ?_ _)); refine blk_far ?_ NB280_291.out _; (with_reducible repeat (first | refine blk_drewN ?_ _ | refine blk_drew ?_ | refine blk_alloc ?_ _)); exact BK280.out) hb); have n3_ := Aside0.mk (blk_below (g := gb291) (o := .cells #[.int .i64 ((rd_T46 ((rd_T44 l0_0 a2).f4) x9_1).f0), .int .i64 ((rd_T46 ((rd_T44 l0_0 a2).f4) x9_1).f1), .int .i64 ((rd_T46 ((rd_T44 l0_0 a2).f4) x9_1).f2), .int .i64 ((rd_T46 ((rd_T44 l0_0 a2).f4) x9_1).f3)] 46 (0, 0)) (by (with_reducible repeat (first | refine blk_drewN ?_ _ | refine blk_drew ?_ | refine blk_alloc ?_ _)); refine blk_put (cs := #[.int .i64 ((rd_T46 ((rd_T44 l0_0 a2).f4) x9_1).f0), .int .i64 ((rd_T46 ((rd_T44 l0_0 a2).f4) x9_1).f1), .int .i64 ((rd_T46 ((rd_T44 l0_0 a2).f4) x9_1).f2), .int .i64 0]) ?_ 3 _ rfl; (with_reducible repeat (first | refine blk_drewN ?_ _ | refine blk_drew ?_ | refine blk_alloc ?_ _)); refine blk_put (cs := #[.int .i64 ((rd_T46 ((rd_T44 l0_0 a2).f4) x9_1).f0), .int .i64 ((rd_T46 ((rd_T44 l0_0 a2).f4) x9_1).f1), .int .i64 0, .int .i64 0]) ?_ 2 _ rfl; (with_reducible repeat (first | refine blk_drewN ?_ _ | refine blk_drew ?_ | refine blk_alloc ?_ _)); refine blk_put (cs := #[.int .i64 ((rd_T46 ((rd_T44 l0_0 a2).f4) x9_1).f0), .int .i64 0, .int .i64 0, .int .i64 0]) ?_ 1 _ rfl; (with_reducible repeat (first | refine blk_drewN ?_ _ | refine blk_drew ?_ | refine blk_alloc ?_ _)); refine blk_put (cs := #[.int .i64 0, .int .i64 0, .int .i64 0, .int .i64 0]) ?_ 0 _ rfl; (with_reducible repeat (first | refine blk_drewN ?_ _ | refine blk_drew ?_ | refine blk_alloc ?_ _)); exact BK291.out) hb); have n4_ := Aside0.mk (below_step (by repeat (first | (with_reducible first | exact HB.out | apply below_alloc | apply pw_below_drewN | apply below_drew1 | refine below_set ?_ GE279.out | refine below_set ?_ GE280.out | refine below_set ?_ GE291.out) | exact HB.out)) hb); clear HO_8; clear BK279; clear BK280; clear BK291; clear HB; have HO_8 := n0_; have BK279 := n1_; have BK280 := n2_; have BK291 := n3_; have HB := n4_; clear n0_ n1_ n2_ n3_ n4_; (try clear hb); (try clear hb2); (try clear hk); (try clear hi)) | ((with_reducible refine gate_dst (N := 11) rfl ?_); refine box_event ?hg (N := 11) ?hd (cs := #[.int .i64 0, .int .i64 0, .int .i64 0, .int .i64 0, .int .i64 0]) (t := 49) ?hr ?_; (case hd => rfl); (case hg => rfl); (case hr => first | (go_simp; done) | (go_simp; rfl)); intro gb299 hg w33 hbox hb; have n0_ := Aside0.mk (Kd.R_below (by (with_reducible repeat (first | apply Kd.R_alloc | apply Kd.R_drewN | apply Kd.R_drew)); exact HO_8.out) hb); have n1_ := Aside0.mk (blk_below (g := gb279) (o := .cells #[.slice (some ad284) l0_0.length c0_0, .slice A0_1 l0_1.length c0_1, .int .i64 a0_2] 25 (0, 0)) (by (with_reducible repeat (first | refine blk_drewN ?_ _ | refine blk_drew ?_ | refine blk_alloc ?_ _)); exact BK279.out) hb); have n2_ := Aside0.mk (blk_below (g := gb280) (o := .cells #[.slice A1_0 l1_0.length c1_0, .slice A1_1 l1_1.length c1_1, .int .i64 a1_2, .int .i64 a1_3, .int .i64 a1_4] 30 (0, 0)) (by (with_reducible repeat (first | refine blk_drewN ?_ _ | refine blk_drew ?_ | refine blk_alloc ?_ _)); exact BK280.out) hb); have n3_ := Aside0.mk (blk_below (g := gb291) (o := .cells #[.int .i64 ((rd_T46 ((rd_T44 l0_0 a2).f4) x9_1).f0), .int .i64 ((rd_T46 ((rd_T44 l0_0 a2).f4) x9_1).f1), .int .i64 ((rd_T46 ((rd_T44 l0_0 a2).f4) x9_1).f2), .int .i64 ((rd_T46 ((rd_T44 l0_0 a2).f4) x9_1).f3)] 46 (0, 0)) (by (with_reducible repeat (first | refine blk_drewN ?_ _ | refine blk_drew ?_ | refine blk_alloc ?_ _)); exact BK291.out) hb); have n4_ := Aside0.mk (below_step (by repeat (first | (with_reducible first | exact HB.out | apply below_alloc | apply pw_below_drewN | apply below_drew1 | refine below_set ?_ GE279.out | refine below_set ?_ GE280.out | refine below_set ?_ GE291.out) | exact HB.out)) hb); have n5_ := Aside0.mk (hbox); have n6_ := Aside0.mk ((by rw [hg]; exact (below_size (by repeat (first | (with_reducible first | exact HB.out | apply below_alloc | apply pw_below_drewN | apply below_drew1 | refine below_set ?_ GE279.out | refine below_set ?_ GE280.out | refine below_set ?_ GE291.out) | exact HB.out))) : w.heap.size ≤ gb299)); have n7_ := Aside0.mk ((by rw [hg]; exact (below_size (by repeat (first | (with_reducible first | exact HB.out | apply below_alloc | apply pw_below_drewN | apply below_drew1 | refine below_set ?_ GE279.out | refine below_set ?_ GE280.out | refine below_set ?_ GE291.out) | exact HB.out))) : w.heap.size ≤ gb299)); have n8_ := Aside0.mk ((by rw [hg]; exact Nat.ne_of_lt (blk_lt (g := gb279) (o := .cells #[.slice (some ad284) l0_0.length c0_0, .slice A0_1 l0_1.length c0_1, .int .i64 a0_2] 25 (0, 0)) (by (with_reducible repeat (first | refine blk_drewN ?_ _ | refine blk_drew ?_ | refine blk_alloc ?_ _)); exact BK279.out)) : gb279 ≠ gb299)); have n9_ := Aside0.mk ((by rw [hg]; exact Nat.ne_of_gt (blk_lt (g := gb279) (o := .cells #[.slice (some ad284) l0_0.length c0_0, .slice A0_1 l0_1.length c0_1, .int .i64 a0_2] 25 (0, 0)) (by (with_reducible repeat (first | refine blk_drewN ?_ _ | refine blk_drew ?_ | refine blk_alloc ?_ _)); exact BK279.out)) : gb299 ≠ gb279)); have n10_ := Aside0.mk ((by rw [hg]; exact Nat.ne_of_lt (blk_lt (g := gb280) (o := .cells #[.slice A1_0 l1_0.length c1_0, .slice A1_1 l1_1.length c1_1, .int .i64 a1_2, .int .i64 a1_3, .int .i64 a1_4] 30 (0, 0)) (by (with_reducible repeat (first | refine blk_drewN ?_ _ | refine blk_drew ?_ | refine blk_alloc ?_ _)); exact BK280.out)) : gb280 ≠ gb299)); have n11_ := Aside0.mk ((by rw [hg]; exact Nat.ne_of_gt (blk_lt (g := gb280) (o := .cells #[.slice A1_0 l1_0.length c1_0, .slice A1_1 l1_1.length c1_1, .int .i64 a1_2, .int .i64 a1_3, .int .i64 a1_4] 30 (0, 0)) (by (with_reducible repeat (first | refine blk_drewN ?_ _ | refine blk_drew ?_ | refine blk_alloc ?_ _)); exact BK280.out)) : gb299 ≠ gb280)); have n12_ := Aside0.mk ((by rw [hg]; exact Nat.ne_of_lt (blk_lt (g := gb291) (o := .cells #[.int .i64 ((rd_T46 ((rd_T44 l0_0 a2).f4) x9_1).f0), .int .i64 ((rd_T46 ((rd_T44 l0_0 a2).f4) x9_1).f1), .int .i64 ((rd_T46 ((rd_T44 l0_0 a2).f4) x9_1).f2), .int .i64 ((rd_T46 ((rd_T44 l0_0 a2).f4) x9_1).f3)] 46 (0, 0)) (by (with_reducible repeat (first | refine blk_drewN ?_ _ | refine blk_drew ?_ | refine blk_alloc ?_ _)); exact BK291.out)) : gb291 ≠ gb299)); have n13_ := Aside0.mk ((by rw [hg]; exact Nat.ne_of_gt (blk_lt (g := gb291) (o := .cells #[.int .i64 ((rd_T46 ((rd_T44 l0_0 a2).f4) x9_1).f0), .int .i64 ((rd_T46 ((rd_T44 l0_0 a2).f4) x9_1).f1), .int .i64 ((rd_T46 ((rd_T44 l0_0 a2).f4) x9_1).f2), .int .i64 ((rd_T46 ((rd_T44 l0_0 a2).f4) x9_1).f3)] 46 (0, 0)) (by (with_reducible repeat (first | refine blk_drewN ?_ _ | refine blk_drew ?_ | refine blk_alloc ?_ _)); exact BK291.out)) : gb299 ≠ gb291)); clear HO_8; clear BK279; clear BK280; clear BK291; clear HB; have HO_8 := n0_; have BK279 := n1_; have BK280 := n2_; have BK291 := n3_; have HB := n4_; have BK299 := n5_; have GW299 := n6_; have GE299 := n7_; have NB279_299 := n8_; have NB299_279 := n9_; have NB280_299 := n10_; have NB299_280 := n11_; have NB291_299 := n12_; have NB299_291 := n13_; clear n0_ n1_ n2_ n3_ n4_ n5_ n6_ n7_ n8_ n9_ n10_ n11_ n12_ n13_; clear hb hbox hg; have hnb34 := NB299_279.out; have hnc34 := NB279_299.out; have hnb35 := NB299_280.out; have hnc35 := NB280_299.out; have hnb36 := NB299_291.out; have hnc36 := NB291_299.out; obtain ⟨hcz37_0, hcz37_1, hcz37_2, hcz37_3, hcz37_4⟩ := blkc40_5 BK299.out; obtain ⟨hfz37_0, hfz37_1, hfz37_2, hfz37_3, hfz37_4⟩ := blkf40_5 BK299.out; have hcz38_0 : w33.cell? ⟨gb291, 0, none⟩ = some (.int .i64 ((rd_T46 ((rd_T44 l0_0 a2).f4) x9_1).f0)) := (blk_cell BK291.out 0).trans rfl; have hcz38_1 : w33.cell? ⟨gb291, 1, none⟩ = some (.int .i64 ((rd_T46 ((rd_T44 l0_0 a2).f4) x9_1).f1)) := (blk_cell BK291.out 1).trans rfl; have hcz38_2 : w33.cell? ⟨gb291, 2, none⟩ = some (.int .i64 ((rd_T46 ((rd_T44 l0_0 a2).f4) x9_1).f2)) := (blk_cell BK291.out 2).trans rfl; have hcz38_3 : w33.cell? ⟨gb291, 3, none⟩ = some (.int .i64 ((rd_T46 ((rd_T44 l0_0 a2).f4) x9_1).f3)) := (blk_cell BK291.out 3).trans rfl; obtain ⟨hfz38_0, hfz38_1, hfz38_2, hfz38_3⟩ := blkf40_4 BK291.out; obtain ⟨hcz39_0, hcz39_1, hcz39_2, hcz39_3, hcz39_4⟩ := blkc40_5 BK280.out; obtain ⟨hfz39_0, hfz39_1, hfz39_2, hfz39_3, hfz39_4⟩ := blkf40_5 BK280.out; have p300 : 0 ≤ (((rd_T46 ((rd_T44 l0_0 a2).f4) x9_1).f2) : Int) := of_decide_eq_true (by first | (with_reducible assumption) | assumption); have q300 : ((rd_T46 ((rd_T44 l0_0 a2).f4) x9_1).f2) < (l1_0.length : Int) := of_decide_eq_true (by first | (with_reducible assumption) | assumption); obtain ⟨ad300, e300, hx300_0⟩ := Kd.at_int HR1_0.out ((rd_T46 ((rd_T44 l0_0 a2).f4) x9_1).f2) p300 q300; cases e300; have hn300_0 : ad300.block ≠ gb299 := Nat.ne_of_lt (Nat.lt_of_lt_of_le (by have := World.block_lt_of_cell? _ _ hx300_0; first | rwa [add_block] at this | exact this) GW299.out); have hn300_1 : ad300.block ≠ gb299 := Nat.ne_of_lt (Nat.lt_of_lt_of_le (by have := World.block_lt_of_cell? _ _ hx300_0; first | rwa [add_block] at this | exact this) GW299.out); have hn300_2 : ad300.block ≠ gb299 := Nat.ne_of_lt (Nat.lt_of_lt_of_le (by have := World.block_lt_of_cell? _ _ hx300_0; first | rwa [add_block] at this | exact this) GW299.out); have hn300_3 : ad300.block ≠ gb299 := Nat.ne_of_lt (Nat.lt_of_lt_of_le (by have := World.block_lt_of_cell? _ _ hx300_0; first | rwa [add_block] at this | exact this) GW299.out); have hn300_4 : ad300.block ≠ gb299 := Nat.ne_of_lt (Nat.lt_of_lt_of_le (by have := World.block_lt_of_cell? _ _ hx300_0; first | rwa [add_block] at this | exact this) GW299.out); replace hx300_0 := (HB.out.cell (World.block_lt_of_cell? w _ hx300_0)).trans hx300_0; replace hx300_0 := (cell_far (p := ⟨gb299, 0, none⟩) (by first | (rw [add_block]; exact hn300_0) | (show (Addr.add _ _).block ≠ _; rw [add_block]; exact hn300_0) | exact hn300_0) (.int .i64 t293)).trans hx300_0; replace hx300_0 := (cell_far (p := ⟨gb299, 1, none⟩) (by first | (rw [add_block]; exact hn300_1) | (show (Addr.add _ _).block ≠ _; rw [add_block]; exact hn300_1) | exact hn300_1) (.int .i64 t294)).trans hx300_0; replace hx300_0 := (cell_far (p := ⟨gb299, 2, none⟩) (by first | (rw [add_block]; exact hn300_2) | (show (Addr.add _ _).block ≠ _; rw [add_block]; exact hn300_2) | exact hn300_2) (.int .i64 t295)).trans hx300_0; replace hx300_0 := (cell_far (p := ⟨gb299, 3, none⟩) (by first | (rw [add_block]; exact hn300_3) | (show (Addr.add _ _).block ≠ _; rw [add_block]; exact hn300_3) | exact hn300_3) (.int .i64 t296)).trans hx300_0; replace hx300_0 := (cell_far (p := ⟨gb299, 4, none⟩) (by first | (rw [add_block]; exact hn300_4) | (show (Addr.add _ _).block ≠ _; rw [add_block]; exact hn300_4) | exact hn300_4) (.int .i64 t297)).trans hx300_0; clear hn300_0; clear hn300_1; clear hn300_2; clear hn300_3; clear hn300_4; replace p300 := eq_true p300; replace q300 := eq_true q300; refine halt_40 (fun P_ hP_ => ?_)))
     by_cases c24 : (rd l1_0 ((rd_T46 ((rd_T44 l0_0 a2).f4) x9_1).f2)) < 0
     ·
      rw [if_pos c24] at H
      have c24b0 : decide ((rd l1_0 ((rd_T46 ((rd_T44 l0_0 a2).f4) x9_1).f2)) < 0) = true := decide_eq_true c24
      clear c24
      simp only [Option.some.injEq, Prod.mk.injEq] at H
      obtain ⟨rfl, rfl⟩ := H
      refine Eq.mpr hP_.out ?_
      go_wp2_with fail
      go_ret2
      exact ⟨_, by first | rfl | (simp [errW_none, errW_some] <;> rfl) | (simp [*, errW_none, errW_some] <;> rfl), by first | exact Kd.R_nil _ _ _ _ _ | exact Kd.N_nil _ _ _ _ _ | exact Kd.V_nil _ _ _ _ _ | exact Kd.Q_nil _ _ _ _ _ | exact Kd.S_nil _ _ _ _ _, by repeat (first | (with_reducible first | exact HB.out | apply below_alloc | apply pw_below_drewN | apply below_drew1 | refine below_set ?_ GE279.out | refine below_set ?_ GE280.out | refine below_set ?_ GE291.out | refine below_set ?_ GE299.out) | exact HB.out)⟩
     ·
      rw [if_neg c24] at H
      have c24b0 : decide ((rd l1_0 ((rd_T46 ((rd_T44 l0_0 a2).f4) x9_1).f2)) < 0) = false := decide_eq_false c24
      clear c24
      by_cases c40 : a2 < (l1_0.length : Int)
      case neg =>
       rw [if_neg c40] at H
       exact absurd H (by simp)
      rw [if_pos c40] at H
      have c40b0 : decide (a2 < (l1_0.length : Int)) = true := decide_eq_true c40
      clear c40
      by_cases c41 : (wrap64 ((rd l1_0 ((rd_T46 ((rd_T44 l0_0 a2).f4) x9_1).f2)) - (wrap64 ((wrap64 ((rd l1_0 a2) + ((rd_T46 ((rd_T44 l0_0 a2).f4) x9_1).f0))) + 1)))) < (-8388608)
      ·
       rw [if_pos c41] at H
       have c41b0 : decide ((wrap64 ((rd l1_0 ((rd_T46 ((rd_T44 l0_0 a2).f4) x9_1).f2)) - (wrap64 ((wrap64 ((rd l1_0 a2) + ((rd_T46 ((rd_T44 l0_0 a2).f4) x9_1).f0))) + 1)))) < (-8388608)) = true := decide_eq_true c41
       clear c41
       simp only [Option.some.injEq, Prod.mk.injEq] at H
       obtain ⟨rfl, rfl⟩ := H
       refine Eq.mpr hP_.out ?_
       try go_wp2_with fail
       obtain ⟨w57, hw57_⟩ : ∃ w_ : World, w_ = (((((w33.setCell ⟨gb299, 0, none⟩ (.int .i64 t293)).setCell ⟨gb299, 1, none⟩ (.int .i64 t294)).setCell ⟨gb299, 2, none⟩ (.int .i64 t295)).setCell ⟨gb299, 3, none⟩ (.int .i64 t296)).setCell ⟨gb299, 4, none⟩ (.int .i64 t297)) := ⟨_, rfl⟩
       have n0_ : Aside0 (Kd.R (Kd.int .u32) 47 w57 w.heap.size (fun _ => True) (.slice (some ad292) x8_1.length co31) x8_1) := ⟨by rw [hw57_]; (with_reducible repeat (first | apply Kd.R_alloc | apply Kd.R_drewN | apply Kd.R_drew)); exact Kd.R_mono (Kd.R_far (p := ⟨gb299, 4, none⟩) (Kd.R_far (p := ⟨gb299, 3, none⟩) (Kd.R_far (p := ⟨gb299, 2, none⟩) (Kd.R_far (p := ⟨gb299, 1, none⟩) (Kd.R_far (p := ⟨gb299, 0, none⟩) (Kd.R_types HO_8.out BK299.out (by decide)) (fun _ hk => hk.2) (.int .i64 t293)) (fun _ hk => hk.2) (.int .i64 t294)) (fun _ hk => hk.2) (.int .i64 t295)) (fun _ hk => hk.2) (.int .i64 t296)) (fun _ hk => hk.2) (.int .i64 t297)) (fun _ hk => trivial)⟩
       have n1_ : Aside0 (w57.heap[gb279]? = some (.cells #[.slice (some ad284) l0_0.length c0_0, .slice A0_1 l0_1.length c0_1, .int .i64 a0_2] 25 (0, 0))) := ⟨by rw [hw57_]; (with_reducible repeat (first | refine blk_drewN ?_ _ | refine blk_drew ?_ | refine blk_alloc ?_ _)); refine blk_far ?_ NB279_299.out _; (with_reducible repeat (first | refine blk_drewN ?_ _ | refine blk_drew ?_ | refine blk_alloc ?_ _)); refine blk_far ?_ NB279_299.out _; (with_reducible repeat (first | refine blk_drewN ?_ _ | refine blk_drew ?_ | refine blk_alloc ?_ _)); refine blk_far ?_ NB279_299.out _; (with_reducible repeat (first | refine blk_drewN ?_ _ | refine blk_drew ?_ | refine blk_alloc ?_ _)); refine blk_far ?_ NB279_299.out _; (with_reducible repeat (first | refine blk_drewN ?_ _ | refine blk_drew ?_ | refine blk_alloc ?_ _)); refine blk_far ?_ NB279_299.out _; (with_reducible repeat (first | refine blk_drewN ?_ _ | refine blk_drew ?_ | refine blk_alloc ?_ _)); exact BK279.out⟩
       have n2_ : Aside0 (w57.heap[gb280]? = some (.cells #[.slice (some ad300) l1_0.length c1_0, .slice A1_1 l1_1.length c1_1, .int .i64 a1_2, .int .i64 a1_3, .int .i64 a1_4] 30 (0, 0))) := ⟨by rw [hw57_]; (with_reducible repeat (first | refine blk_drewN ?_ _ | refine blk_drew ?_ | refine blk_alloc ?_ _)); refine blk_far ?_ NB280_299.out _; (with_reducible repeat (first | refine blk_drewN ?_ _ | refine blk_drew ?_ | refine blk_alloc ?_ _)); refine blk_far ?_ NB280_299.out _; (with_reducible repeat (first | refine blk_drewN ?_ _ | refine blk_drew ?_ | refine blk_alloc ?_ _)); refine blk_far ?_ NB280_299.out _; (with_reducible repeat (first | refine blk_drewN ?_ _ | refine blk_drew ?_ | refine blk_alloc ?_ _)); refine blk_far ?_ NB280_299.out _; (with_reducible repeat (first | refine blk_drewN ?_ _ | refine blk_drew ?_ | refine blk_alloc ?_ _)); refine blk_far ?_ NB280_299.out _; (with_reducible repeat (first | refine blk_drewN ?_ _ | refine blk_drew ?_ | refine blk_alloc ?_ _)); exact BK280.out⟩
       have n3_ : Aside0 (w57.heap[gb291]? = some (.cells #[.int .i64 ((rd_T46 ((rd_T44 l0_0 a2).f4) x9_1).f0), .int .i64 ((rd_T46 ((rd_T44 l0_0 a2).f4) x9_1).f1), .int .i64 ((rd_T46 ((rd_T44 l0_0 a2).f4) x9_1).f2), .int .i64 ((rd_T46 ((rd_T44 l0_0 a2).f4) x9_1).f3)] 46 (0, 0))) := ⟨by rw [hw57_]; (with_reducible repeat (first | refine blk_drewN ?_ _ | refine blk_drew ?_ | refine blk_alloc ?_ _)); refine blk_far ?_ NB291_299.out _; (with_reducible repeat (first | refine blk_drewN ?_ _ | refine blk_drew ?_ | refine blk_alloc ?_ _)); refine blk_far ?_ NB291_299.out _; (with_reducible repeat (first | refine blk_drewN ?_ _ | refine blk_drew ?_ | refine blk_alloc ?_ _)); refine blk_far ?_ NB291_299.out _; (with_reducible repeat (first | refine blk_drewN ?_ _ | refine blk_drew ?_ | refine blk_alloc ?_ _)); refine blk_far ?_ NB291_299.out _; (with_reducible repeat (first | refine blk_drewN ?_ _ | refine blk_drew ?_ | refine blk_alloc ?_ _)); refine blk_far ?_ NB291_299.out _; (with_reducible repeat (first | refine blk_drewN ?_ _ | refine blk_drew ?_ | refine blk_alloc ?_ _)); exact BK291.out⟩
       have n4_ : Aside0 (w57.heap[gb299]? = some (.cells #[.int .i64 t293, .int .i64 t294, .int .i64 t295, .int .i64 t296, .int .i64 t297] 49 (0, 0))) := ⟨by rw [hw57_]; (with_reducible repeat (first | refine blk_drewN ?_ _ | refine blk_drew ?_ | refine blk_alloc ?_ _)); refine blk_put (cs := #[.int .i64 t293, .int .i64 t294, .int .i64 t295, .int .i64 t296, .int .i64 0]) ?_ 4 _ rfl; (with_reducible repeat (first | refine blk_drewN ?_ _ | refine blk_drew ?_ | refine blk_alloc ?_ _)); refine blk_put (cs := #[.int .i64 t293, .int .i64 t294, .int .i64 t295, .int .i64 0, .int .i64 0]) ?_ 3 _ rfl; (with_reducible repeat (first | refine blk_drewN ?_ _ | refine blk_drew ?_ | refine blk_alloc ?_ _)); refine blk_put (cs := #[.int .i64 t293, .int .i64 t294, .int .i64 0, .int .i64 0, .int .i64 0]) ?_ 2 _ rfl; (with_reducible repeat (first | refine blk_drewN ?_ _ | refine blk_drew ?_ | refine blk_alloc ?_ _)); refine blk_put (cs := #[.int .i64 t293, .int .i64 0, .int .i64 0, .int .i64 0, .int .i64 0]) ?_ 1 _ rfl; (with_reducible repeat (first | refine blk_drewN ?_ _ | refine blk_drew ?_ | refine blk_alloc ?_ _)); refine blk_put (cs := #[.int .i64 0, .int .i64 0, .int .i64 0, .int .i64 0, .int .i64 0]) ?_ 0 _ rfl; (with_reducible repeat (first | refine blk_drewN ?_ _ | refine blk_drew ?_ | refine blk_alloc ?_ _)); exact BK299.out⟩
       have n5_ : Aside0 (Below w.heap.size w w57) := ⟨by rw [hw57_]; repeat (first | (with_reducible first | exact HB.out | apply below_alloc | apply pw_below_drewN | apply below_drew1 | refine below_set ?_ GE279.out | refine below_set ?_ GE280.out | refine below_set ?_ GE291.out | refine below_set ?_ GE299.out) | exact HB.out)⟩
       (try clear HO_8)
       (try clear BK279)
       (try clear BK280)
       (try clear BK291)
       (try clear BK299)
       (try clear HB)
       (try rw [← hw57_])
       clear hw57_
       have HO_8 := n0_
       have BK279 := n1_
       have BK280 := n2_
       have BK291 := n3_
       have BK299 := n4_
       have HB := n5_
       clear n0_ n1_ n2_ n3_ n4_ n5_
       have n0_ := Aside0.mk (Kd.R_drew HO_8.out)
       have n1_ := Aside0.mk (blk_drew BK279.out)
       have n2_ := Aside0.mk (blk_drew BK280.out)
       have n3_ := Aside0.mk (blk_drew BK291.out)
       have n4_ := Aside0.mk (blk_drew BK299.out)
       have n5_ := Aside0.mk (below_drew1 HB.out)
       clear HO_8
       clear BK279
       clear BK280
       clear BK291
       clear BK299
       clear HB
       have HO_8 := n0_
       have BK279 := n1_
       have BK280 := n2_
       have BK291 := n3_
       have BK299 := n4_
       have HB := n5_
       clear n0_ n1_ n2_ n3_ n4_ n5_
       have p301 : 0 ≤ (((rd_T46 ((rd_T44 l0_0 a2).f4) x9_1).f2) : Int) := of_decide_eq_true (by first | (with_reducible assumption) | assumption)
       have q301 : ((rd_T46 ((rd_T44 l0_0 a2).f4) x9_1).f2) < (l1_0.length : Int) := of_decide_eq_true (by first | (with_reducible assumption) | assumption)
       obtain ⟨ad301, e301, hx301_0⟩ := Kd.at_int HR1_0.out ((rd_T46 ((rd_T44 l0_0 a2).f4) x9_1).f2) p301 q301
       have hw301_0 := hx301_0
       obtain rfl : ad300 = ad301 := (by injection e301)
       replace hx301_0 := (HB.out.cell (World.block_lt_of_cell? w _ hx301_0)).trans hx301_0
       replace p301 := eq_true p301
       replace q301 := eq_true q301
       have p302 : 0 ≤ (a2 : Int) := of_decide_eq_true (by first | (with_reducible assumption) | assumption)
       have q302 : a2 < (l1_0.length : Int) := of_decide_eq_true (by first | (with_reducible assumption) | assumption)
       obtain ⟨ad302, e302, hx302_0⟩ := Kd.at_int HR1_0.out a2 p302 q302
       have hw302_0 := hx302_0
       obtain rfl : ad300 = ad302 := (by injection e302)
       replace hx302_0 := (HB.out.cell (World.block_lt_of_cell? w _ hx302_0)).trans hx302_0
       replace p302 := eq_true p302
       replace q302 := eq_true q302
       refine start_ (n := 18) (S := fun w' => w'.cell? ⟨gb280, 0, none⟩ = some (.slice (some ad300) l1_0.length c1_0) ∧ w'.cell? ⟨gb280, 1, none⟩ = some (.slice A1_1 l1_1.length c1_1) ∧ w'.cell? ⟨gb280, 2, none⟩ = some (.int .i64 a1_2) ∧ w'.cell? ⟨gb280, 3, none⟩ = some (.int .i64 a1_3) ∧ w'.cell? ⟨gb280, 4, none⟩ = some (.int .i64 a1_4) ∧ w'.cell? ⟨gb291, 0, none⟩ = some (.int .i64 ((rd_T46 ((rd_T44 l0_0 a2).f4) x9_1).f0)) ∧ w'.cell? ⟨gb291, 1, none⟩ = some (.int .i64 ((rd_T46 ((rd_T44 l0_0 a2).f4) x9_1).f1)) ∧ w'.cell? ⟨gb291, 2, none⟩ = some (.int .i64 ((rd_T46 ((rd_T44 l0_0 a2).f4) x9_1).f2)) ∧ w'.cell? ⟨gb291, 3, none⟩ = some (.int .i64 ((rd_T46 ((rd_T44 l0_0 a2).f4) x9_1).f3)) ∧ w'.cell? (ad300.add (((rd_T46 ((rd_T44 l0_0 a2).f4) x9_1).f2)).toNat) = some (.int .i64 (rd l1_0 ((rd_T46 ((rd_T44 l0_0 a2).f4) x9_1).f2))) ∧ w'.cell? (ad300.add (a2).toNat) = some (.int .i64 (rd l1_0 a2))) (ds := []) #[false, false, false, false, false, false, false, false, false, false, false, false, false, false, false, false, false, false] (by kernel_rfl) rfl rfl ⟨(blk_cell BK280.out 0).trans rfl, (blk_cell BK280.out 1).trans rfl, (blk_cell BK280.out 2).trans rfl, (blk_cell BK280.out 3).trans rfl, (blk_cell BK280.out 4).trans rfl, (blk_cell BK291.out 0).trans rfl, (blk_cell BK291.out 1).trans rfl, (blk_cell BK291.out 2).trans rfl, (blk_cell BK291.out 3).trans rfl, ((HB.out.cell (World.block_lt_of_cell? w _ hw301_0)).trans hw301_0), ((HB.out.cell (World.block_lt_of_cell? w _ hw302_0)).trans hw302_0)⟩ (fun hHeld => ?_); refine with_tabW spliceref13_Code.tab10 spliceref13_Code.bits10 (fun HT_ HW_ => ?_)
       generalize w57.drew = w58 at HO_8 BK279 BK280 BK291 BK299 HB hx301_0 hx302_0 hHeld ⊢
       refine pure_ (i := 0) (N := some 61) (v := ?_) (a' := ?_) #[true, false, false, false, false, false, false, false, false, false, false, false, false, false, false, false, false, false] rfl rfl (any_of HT_.out (by kernel_rfl)) (fun _ _ _ h => h) (Or.inl ⟨by rfl, ?_⟩) ?_ ?_
       rotate_left
       ·
        intro w'
        go_simp
        with_reducible rfl
       rotate_left
       ·
        simp only [Act.put, List.setIfInBounds_toArray, List.set_cons_zero, List.set_cons_succ, i64_w, i32_w]
        rfl
       refine pure_ (i := 2) (N := some 63) (v := ?_) (a' := ?_) #[true, false, true, false, false, false, false, false, false, false, false, false, false, false, false, false, false, false] rfl rfl (any_of HT_.out (by kernel_rfl)) (fun _ _ _ h => h) (Or.inl ⟨by rfl, ?_⟩) ?_ ?_
       rotate_left
       ·
        intro w'
        go_simp
        with_reducible rfl
       rotate_left
       ·
        simp only [Act.put, List.setIfInBounds_toArray, List.set_cons_zero, List.set_cons_succ, i64_w, i32_w]
        rfl
       refine pure_ (i := 6) (N := some 67) (v := ?_) (a' := ?_) #[true, false, true, false, false, false, true, false, false, false, false, false, false, false, false, false, false, false] rfl rfl (any_of HT_.out (by kernel_rfl)) (fun _ _ _ h => h) (Or.inl ⟨by rfl, ?_⟩) ?_ ?_
       rotate_left
       ·
        intro w'
        go_simp
        with_reducible rfl
       rotate_left
       ·
        simp only [Act.put, List.setIfInBounds_toArray, List.set_cons_zero, List.set_cons_succ, i64_w, i32_w]
        rfl
       refine pure_ (i := 8) (N := some 69) (v := ?_) (a' := ?_) #[true, false, true, false, false, false, true, false, true, false, false, false, false, false, false, false, false, false] rfl rfl (any_of HT_.out (by kernel_rfl)) (fun _ _ _ h => h) (Or.inl ⟨by rfl, ?_⟩) ?_ ?_
       rotate_left
       ·
        intro w'
        go_simp
        with_reducible rfl
       rotate_left
       ·
        simp only [Act.put, List.setIfInBounds_toArray, List.set_cons_zero, List.set_cons_succ, i64_w, i32_w]
        rfl
       refine pure_ (i := 11) (N := some 72) (v := ?_) (a' := ?_) #[true, false, true, false, false, false, true, false, true, false, false, true, false, false, false, false, false, false] rfl rfl (any_of HT_.out (by kernel_rfl)) (fun _ _ _ h => h) (Or.inl ⟨by rfl, ?_⟩) ?_ ?_
       rotate_left
       ·
        intro w'
        go_simp
        with_reducible rfl
       rotate_left
       ·
        simp only [Act.put, List.setIfInBounds_toArray, List.set_cons_zero, List.set_cons_succ, i64_w, i32_w]
        rfl
       refine take_ (i := 1) (N := some 62) (v := ?_) (a' := ?_) #[true, true, true, false, false, false, true, false, true, false, false, true, false, false, false, false, false, false] rfl rfl (take_ofW HT_.out HW_.out (by kernel_rfl)) (fun _ _ _ h => h) (Or.inl ⟨by rfl, ?_⟩) hHeld ?_ ?_
       rotate_left
       ·
        rintro w' ⟨s0, s1, s2, s3, s4, s5, s6, s7, s8, s9, s10⟩
        go_simp
        with_reducible rfl
       rotate_left
       ·
        simp only [Act.put, List.setIfInBounds_toArray, List.set_cons_zero, List.set_cons_succ, i64_w, i32_w]
        rfl
       refine take_ (i := 3) (N := some 64) (v := ?_) (a' := ?_) #[true, true, true, true, false, false, true, false, true, false, false, true, false, false, false, false, false, false] rfl rfl (take_ofW HT_.out HW_.out (by kernel_rfl)) (fun _ _ _ h => h) (Or.inl ⟨by rfl, ?_⟩) hHeld ?_ ?_
       rotate_left
       ·
        rintro w' ⟨s0, s1, s2, s3, s4, s5, s6, s7, s8, s9, s10⟩
        go_simp
        with_reducible rfl
       rotate_left
       ·
        simp only [Act.put, List.setIfInBounds_toArray, List.set_cons_zero, List.set_cons_succ, i64_w, i32_w]
        rfl
       refine pure_ (i := 4) (N := some 65) (v := ?_) (a' := ?_) #[true, true, true, true, true, false, true, false, true, false, false, true, false, false, false, false, false, false] rfl rfl (any_of HT_.out (by kernel_rfl)) (fun _ _ _ h => h) (Or.inl ⟨by rfl, ?_⟩) ?_ ?_
       rotate_left
       ·
        intro w'
        go_simp
        with_reducible rfl
       rotate_left
       ·
        simp only [Act.put, List.setIfInBounds_toArray, List.set_cons_zero, List.set_cons_succ, i64_w, i32_w]
        rfl
       refine take_ (i := 5) (N := some 66) (v := ?_) (a' := ?_) #[true, true, true, true, true, true, true, false, true, false, false, true, false, false, false, false, false, false] rfl rfl (take_ofW HT_.out HW_.out (by kernel_rfl)) (fun _ _ _ h => h) (Or.inl ⟨by rfl, ?_⟩) hHeld ?_ ?_
       rotate_left
       ·
        rintro w' ⟨s0, s1, s2, s3, s4, s5, s6, s7, s8, s9, s10⟩
        go_simp
        with_reducible rfl
       rotate_left
       ·
        simp only [Act.put, List.setIfInBounds_toArray, List.set_cons_zero, List.set_cons_succ, i64_w, i32_w]
        rfl
       refine take_ (i := 7) (N := some 68) (v := ?_) (a' := ?_) #[true, true, true, true, true, true, true, true, true, false, false, true, false, false, false, false, false, false] rfl rfl (take_ofW HT_.out HW_.out (by kernel_rfl)) (fun _ _ _ h => h) (Or.inl ⟨by rfl, ?_⟩) hHeld ?_ ?_
       rotate_left
       ·
        rintro w' ⟨s0, s1, s2, s3, s4, s5, s6, s7, s8, s9, s10⟩
        go_simp
        with_reducible rfl
       rotate_left
       ·
        simp only [Act.put, List.setIfInBounds_toArray, List.set_cons_zero, List.set_cons_succ, i64_w, i32_w]
        rfl
       refine pure_ (i := 9) (N := some 70) (v := ?_) (a' := ?_) #[true, true, true, true, true, true, true, true, true, true, false, true, false, false, false, false, false, false] rfl rfl (any_of HT_.out (by kernel_rfl)) (fun _ _ _ h => h) (Or.inl ⟨by rfl, ?_⟩) ?_ ?_
       rotate_left
       ·
        intro w'
        go_simp
        with_reducible rfl
       rotate_left
       ·
        simp only [Act.put, List.setIfInBounds_toArray, List.set_cons_zero, List.set_cons_succ, i64_w, i32_w]
        rfl
       refine take_ (i := 10) (N := some 71) (v := ?_) (a' := ?_) #[true, true, true, true, true, true, true, true, true, true, true, true, false, false, false, false, false, false] rfl rfl (take_ofW HT_.out HW_.out (by kernel_rfl)) (fun _ _ _ h => h) (Or.inl ⟨by rfl, ?_⟩) hHeld ?_ ?_
       rotate_left
       ·
        rintro w' ⟨s0, s1, s2, s3, s4, s5, s6, s7, s8, s9, s10⟩
        go_simp
        with_reducible rfl
       rotate_left
       ·
        simp only [Act.put, List.setIfInBounds_toArray, List.set_cons_zero, List.set_cons_succ, i64_w, i32_w]
        rfl
       refine take_ (i := 12) (N := some 73) (v := ?_) (a' := ?_) #[true, true, true, true, true, true, true, true, true, true, true, true, true, false, false, false, false, false] rfl rfl (take_ofW HT_.out HW_.out (by kernel_rfl)) (fun _ _ _ h => h) (Or.inl ⟨by rfl, ?_⟩) hHeld ?_ ?_
       rotate_left
       ·
        rintro w' ⟨s0, s1, s2, s3, s4, s5, s6, s7, s8, s9, s10⟩
        go_simp
        with_reducible rfl
       rotate_left
       ·
        simp only [Act.put, List.setIfInBounds_toArray, List.set_cons_zero, List.set_cons_succ, i64_w, i32_w]
        rfl
       refine pure_ (i := 13) (N := some 74) (v := ?_) (a' := ?_) #[true, true, true, true, true, true, true, true, true, true, true, true, true, true, false, false, false, false] rfl rfl (any_of HT_.out (by kernel_rfl)) (fun _ _ _ h => h) (Or.inl ⟨by rfl, ?_⟩) ?_ ?_
       rotate_left
       ·
        intro w'
        go_simp
        with_reducible rfl
       rotate_left
       ·
        simp only [Act.put, List.setIfInBounds_toArray, List.set_cons_zero, List.set_cons_succ, i64_w, i32_w]
        rfl
       refine pure_ (i := 14) (N := some 75) (v := ?_) (a' := ?_) #[true, true, true, true, true, true, true, true, true, true, true, true, true, true, true, false, false, false] rfl rfl (any_of HT_.out (by kernel_rfl)) (fun _ _ _ h => h) (Or.inl ⟨by rfl, ?_⟩) ?_ ?_
       rotate_left
       ·
        intro w'
        go_simp
        with_reducible rfl
       rotate_left
       ·
        simp only [Act.put, List.setIfInBounds_toArray, List.set_cons_zero, List.set_cons_succ, i64_w, i32_w]
        rfl
       refine pure_ (i := 15) (N := some 76) (v := ?_) (a' := ?_) #[true, true, true, true, true, true, true, true, true, true, true, true, true, true, true, true, false, false] rfl rfl (any_of HT_.out (by kernel_rfl)) (fun _ _ _ h => h) (Or.inl ⟨by rfl, ?_⟩) ?_ ?_
       rotate_left
       ·
        intro w'
        go_simp
        with_reducible rfl
       rotate_left
       ·
        simp only [Act.put, List.setIfInBounds_toArray, List.set_cons_zero, List.set_cons_succ, i64_w, i32_w]
        rfl
       refine pure_ (i := 16) (N := some 77) (v := ?_) (a' := ?_) #[true, true, true, true, true, true, true, true, true, true, true, true, true, true, true, true, true, false] rfl rfl (any_of HT_.out (by kernel_rfl)) (fun _ _ _ h => h) (Or.inl ⟨by rfl, ?_⟩) ?_ ?_
       rotate_left
       ·
        intro w'
        go_simp
        with_reducible rfl
       rotate_left
       ·
        simp only [Act.put, List.setIfInBounds_toArray, List.set_cons_zero, List.set_cons_succ, i64_w, i32_w]
        rfl
       refine one_ (i := 17) (N := none) #[true, true, true, true, true, true, true, true, true, true, true, true, true, true, true, true, true, true] rfl rfl (one_of HT_.out (by kernel_rfl)) (by decide) (fun K hK => ?_)
       have hs59 : w58.cell? ⟨gb299, 4, none⟩ = some (.int .i64 t297) := (blk_cell BK299.out 4).trans rfl
       have hfs59 := blk_frozen BK299.out 4
       have hns59_0 := NB279_299.out
       have hns59_1 := NB280_299.out
       have hns59_2 := NB291_299.out
       have hms59_0 := NB299_279.out
       have hms59_1 := NB299_280.out
       have hms59_2 := NB299_291.out
       refine skip_ (w1 := ?_) (by rfl) rfl ?_ ?_
       rotate_left
       ·
        go_simp
        rfl
       refine hK.out _ _ ⟨((cell_far (p := ⟨gb299, _, none⟩) NB280_299.out _).trans (hHeld.1)), ((cell_far (p := ⟨gb299, _, none⟩) NB280_299.out _).trans (hHeld.2.1)), ((cell_far (p := ⟨gb299, _, none⟩) NB280_299.out _).trans (hHeld.2.2.1)), ((cell_far (p := ⟨gb299, _, none⟩) NB280_299.out _).trans (hHeld.2.2.2.1)), ((cell_far (p := ⟨gb299, _, none⟩) NB280_299.out _).trans (hHeld.2.2.2.2.1)), ((cell_far (p := ⟨gb299, _, none⟩) NB291_299.out _).trans (hHeld.2.2.2.2.2.1)), ((cell_far (p := ⟨gb299, _, none⟩) NB291_299.out _).trans (hHeld.2.2.2.2.2.2.1)), ((cell_far (p := ⟨gb299, _, none⟩) NB291_299.out _).trans (hHeld.2.2.2.2.2.2.2.1)), ((cell_far (p := ⟨gb299, _, none⟩) NB291_299.out _).trans (hHeld.2.2.2.2.2.2.2.2.1)), ((cell_far (p := ⟨gb299, _, none⟩) (by first | exact Nat.ne_of_lt (Nat.lt_of_lt_of_le (by have := World.block_lt_of_cell? _ _ hw301_0; first | rwa [add_block] at this | exact this) GW299.out) | (rw [add_block]; exact Nat.ne_of_lt (Nat.lt_of_lt_of_le (by have := World.block_lt_of_cell? _ _ hw301_0; first | rwa [add_block] at this | exact this) GW299.out)) | (show (Addr.add _ _).block ≠ _; rw [add_block]; exact Nat.ne_of_lt (Nat.lt_of_lt_of_le (by have := World.block_lt_of_cell? _ _ hw301_0; first | rwa [add_block] at this | exact this) GW299.out)) | (dsimp only; exact Nat.ne_of_lt (Nat.lt_of_lt_of_le (by have := World.block_lt_of_cell? _ _ hw301_0; first | rwa [add_block] at this | exact this) GW299.out))) _).trans (hHeld.2.2.2.2.2.2.2.2.2.1)), ((cell_far (p := ⟨gb299, _, none⟩) (by first | exact Nat.ne_of_lt (Nat.lt_of_lt_of_le (by have := World.block_lt_of_cell? _ _ hw302_0; first | rwa [add_block] at this | exact this) GW299.out) | (rw [add_block]; exact Nat.ne_of_lt (Nat.lt_of_lt_of_le (by have := World.block_lt_of_cell? _ _ hw302_0; first | rwa [add_block] at this | exact this) GW299.out)) | (show (Addr.add _ _).block ≠ _; rw [add_block]; exact Nat.ne_of_lt (Nat.lt_of_lt_of_le (by have := World.block_lt_of_cell? _ _ hw302_0; first | rwa [add_block] at this | exact this) GW299.out)) | (dsimp only; exact Nat.ne_of_lt (Nat.lt_of_lt_of_le (by have := World.block_lt_of_cell? _ _ hw302_0; first | rwa [add_block] at this | exact this) GW299.out))) _).trans (hHeld.2.2.2.2.2.2.2.2.2.2))⟩ (fun hHeld => ?_)
       clear hK K
       refine done_ (done_of HT_.out (by kernel_rfl)) ?_
       obtain ⟨hcz60_0, hcz60_1, hcz60_2, hcz60_3, hcz60_4⟩ := blkc40_5 BK299.out
       obtain ⟨hfz60_0, hfz60_1, hfz60_2, hfz60_3, hfz60_4⟩ := blkf40_5 BK299.out
       try go_wp2
       go_ret2
       exact ⟨_, by first | rfl | (simp [errW_none, errW_some] <;> rfl) | (simp [*, errW_none, errW_some] <;> rfl), by first | exact Kd.R_nil _ _ _ _ _ | exact Kd.N_nil _ _ _ _ _ | exact Kd.V_nil _ _ _ _ _ | exact Kd.Q_nil _ _ _ _ _ | exact Kd.S_nil _ _ _ _ _, by repeat (first | (with_reducible first | exact HB.out | apply below_alloc | apply pw_below_drewN | apply below_drew1 | refine below_set ?_ GE279.out | refine below_set ?_ GE280.out | refine below_set ?_ GE291.out | refine below_set ?_ GE299.out) | exact HB.out)⟩
      ·
       rw [if_neg c41] at H
       have c41b0 : decide ((wrap64 ((rd l1_0 ((rd_T46 ((rd_T44 l0_0 a2).f4) x9_1).f2)) - (wrap64 ((wrap64 ((rd l1_0 a2) + ((rd_T46 ((rd_T44 l0_0 a2).f4) x9_1).f0))) + 1)))) < (-8388608)) = false := decide_eq_false c41
       clear c41
       by_cases c61 : (wrap64 ((rd l1_0 ((rd_T46 ((rd_T44 l0_0 a2).f4) x9_1).f2)) - (wrap64 ((wrap64 ((rd l1_0 a2) + ((rd_T46 ((rd_T44 l0_0 a2).f4) x9_1).f0))) + 1)))) > 8388607
       ·
        rw [if_pos c61] at H
        have c61b0 : decide (8388607 < (wrap64 ((rd l1_0 ((rd_T46 ((rd_T44 l0_0 a2).f4) x9_1).f2)) - (wrap64 ((wrap64 ((rd l1_0 a2) + ((rd_T46 ((rd_T44 l0_0 a2).f4) x9_1).f0))) + 1))))) = true := decide_eq_true c61
        clear c61
        simp only [Option.some.injEq, Prod.mk.injEq] at H
        obtain ⟨rfl, rfl⟩ := H
        refine Eq.mpr hP_.out ?_
        try go_wp2_with fail
        obtain ⟨w77, hw77_⟩ : ∃ w_ : World, w_ = (((((w33.setCell ⟨gb299, 0, none⟩ (.int .i64 t293)).setCell ⟨gb299, 1, none⟩ (.int .i64 t294)).setCell ⟨gb299, 2, none⟩ (.int .i64 t295)).setCell ⟨gb299, 3, none⟩ (.int .i64 t296)).setCell ⟨gb299, 4, none⟩ (.int .i64 t297)) := ⟨_, rfl⟩
        have n0_ : Aside0 (Kd.R (Kd.int .u32) 47 w77 w.heap.size (fun _ => True) (.slice (some ad292) x8_1.length co31) x8_1) := ⟨by rw [hw77_]; (with_reducible repeat (first | apply Kd.R_alloc | apply Kd.R_drewN | apply Kd.R_drew)); exact Kd.R_mono (Kd.R_far (p := ⟨gb299, 4, none⟩) (Kd.R_far (p := ⟨gb299, 3, none⟩) (Kd.R_far (p := ⟨gb299, 2, none⟩) (Kd.R_far (p := ⟨gb299, 1, none⟩) (Kd.R_far (p := ⟨gb299, 0, none⟩) (Kd.R_types HO_8.out BK299.out (by decide)) (fun _ hk => hk.2) (.int .i64 t293)) (fun _ hk => hk.2) (.int .i64 t294)) (fun _ hk => hk.2) (.int .i64 t295)) (fun _ hk => hk.2) (.int .i64 t296)) (fun _ hk => hk.2) (.int .i64 t297)) (fun _ hk => trivial)⟩
        have n1_ : Aside0 (w77.heap[gb279]? = some (.cells #[.slice (some ad284) l0_0.length c0_0, .slice A0_1 l0_1.length c0_1, .int .i64 a0_2] 25 (0, 0))) := ⟨by rw [hw77_]; (with_reducible repeat (first | refine blk_drewN ?_ _ | refine blk_drew ?_ | refine blk_alloc ?_ _)); refine blk_far ?_ NB279_299.out _; (with_reducible repeat (first | refine blk_drewN ?_ _ | refine blk_drew ?_ | refine blk_alloc ?_ _)); refine blk_far ?_ NB279_299.out _; (with_reducible repeat (first | refine blk_drewN ?_ _ | refine blk_drew ?_ | refine blk_alloc ?_ _)); refine blk_far ?_ NB279_299.out _; (with_reducible repeat (first | refine blk_drewN ?_ _ | refine blk_drew ?_ | refine blk_alloc ?_ _)); refine blk_far ?_ NB279_299.out _; (with_reducible repeat (first | refine blk_drewN ?_ _ | refine blk_drew ?_ | refine blk_alloc ?_ _)); refine blk_far ?_ NB279_299.out _; (with_reducible repeat (first | refine blk_drewN ?_ _ | refine blk_drew ?_ | refine blk_alloc ?_ _)); exact BK279.out⟩
        have n2_ : Aside0 (w77.heap[gb280]? = some (.cells #[.slice (some ad300) l1_0.length c1_0, .slice A1_1 l1_1.length c1_1, .int .i64 a1_2, .int .i64 a1_3, .int .i64 a1_4] 30 (0, 0))) := ⟨by rw [hw77_]; (with_reducible repeat (first | refine blk_drewN ?_ _ | refine blk_drew ?_ | refine blk_alloc ?_ _)); refine blk_far ?_ NB280_299.out _; (with_reducible repeat (first | refine blk_drewN ?_ _ | refine blk_drew ?_ | refine blk_alloc ?_ _)); refine blk_far ?_ NB280_299.out _; (with_reducible repeat (first | refine blk_drewN ?_ _ | refine blk_drew ?_ | refine blk_alloc ?_ _)); refine blk_far ?_ NB280_299.out _; (with_reducible repeat (first | refine blk_drewN ?_ _ | refine blk_drew ?_ | refine blk_alloc ?_ _)); refine blk_far ?_ NB280_299.out _; (with_reducible repeat (first | refine blk_drewN ?_ _ | refine blk_drew ?_ | refine blk_alloc ?_ _)); refine blk_far ?_ NB280_299.out _; (with_reducible repeat (first | refine blk_drewN ?_ _ | refine blk_drew ?_ | refine blk_alloc ?_ _)); exact BK280.out⟩
        have n3_ : Aside0 (w77.heap[gb291]? = some (.cells #[.int .i64 ((rd_T46 ((rd_T44 l0_0 a2).f4) x9_1).f0), .int .i64 ((rd_T46 ((rd_T44 l0_0 a2).f4) x9_1).f1), .int .i64 ((rd_T46 ((rd_T44 l0_0 a2).f4) x9_1).f2), .int .i64 ((rd_T46 ((rd_T44 l0_0 a2).f4) x9_1).f3)] 46 (0, 0))) := ⟨by rw [hw77_]; (with_reducible repeat (first | refine blk_drewN ?_ _ | refine blk_drew ?_ | refine blk_alloc ?_ _)); refine blk_far ?_ NB291_299.out _; (with_reducible repeat (first | refine blk_drewN ?_ _ | refine blk_drew ?_ | refine blk_alloc ?_ _)); refine blk_far ?_ NB291_299.out _; (with_reducible repeat (first | refine blk_drewN ?_ _ | refine blk_drew ?_ | refine blk_alloc ?_ _)); refine blk_far ?_ NB291_299.out _; (with_reducible repeat (first | refine blk_drewN ?_ _ | refine blk_drew ?_ | refine blk_alloc ?_ _)); refine blk_far ?_ NB291_299.out _; (with_reducible repeat (first | refine blk_drewN ?_ _ | refine blk_drew ?_ | refine blk_alloc ?_ _)); refine blk_far ?_ NB291_299.out _; (with_reducible repeat (first | refine blk_drewN ?_ _ | refine blk_drew ?_ | refine blk_alloc ?_ _)); exact BK291.out⟩
        have n4_ : Aside0 (w77.heap[gb299]? = some (.cells #[.int .i64 t293, .int .i64 t294, .int .i64 t295, .int .i64 t296, .int .i64 t297] 49 (0, 0))) := ⟨by rw [hw77_]; (with_reducible repeat (first | refine blk_drewN ?_ _ | refine blk_drew ?_ | refine blk_alloc ?_ _)); refine blk_put (cs := #[.int .i64 t293, .int .i64 t294, .int .i64 t295, .int .i64 t296, .int .i64 0]) ?_ 4 _ rfl; (with_reducible repeat (first | refine blk_drewN ?_ _ | refine blk_drew ?_ | refine blk_alloc ?_ _)); refine blk_put (cs := #[.int .i64 t293, .int .i64 t294, .int .i64 t295, .int .i64 0, .int .i64 0]) ?_ 3 _ rfl; (with_reducible repeat (first | refine blk_drewN ?_ _ | refine blk_drew ?_ | refine blk_alloc ?_ _)); refine blk_put (cs := #[.int .i64 t293, .int .i64 t294, .int .i64 0, .int .i64 0, .int .i64 0]) ?_ 2 _ rfl; (with_reducible repeat (first | refine blk_drewN ?_ _ | refine blk_drew ?_ | refine blk_alloc ?_ _)); refine blk_put (cs := #[.int .i64 t293, .int .i64 0, .int .i64 0, .int .i64 0, .int .i64 0]) ?_ 1 _ rfl; (with_reducible repeat (first | refine blk_drewN ?_ _ | refine blk_drew ?_ | refine blk_alloc ?_ _)); refine blk_put (cs := #[.int .i64 0, .int .i64 0, .int .i64 0, .int .i64 0, .int .i64 0]) ?_ 0 _ rfl; (with_reducible repeat (first | refine blk_drewN ?_ _ | refine blk_drew ?_ | refine blk_alloc ?_ _)); exact BK299.out⟩
        have n5_ : Aside0 (Below w.heap.size w w77) := ⟨by rw [hw77_]; repeat (first | (with_reducible first | exact HB.out | apply below_alloc | apply pw_below_drewN | apply below_drew1 | refine below_set ?_ GE279.out | refine below_set ?_ GE280.out | refine below_set ?_ GE291.out | refine below_set ?_ GE299.out) | exact HB.out)⟩
        (try clear HO_8)
        (try clear BK279)
        (try clear BK280)
        (try clear BK291)
        (try clear BK299)
        (try clear HB)
        (try rw [← hw77_])
        clear hw77_
        have HO_8 := n0_
        have BK279 := n1_
        have BK280 := n2_
        have BK291 := n3_
        have BK299 := n4_
        have HB := n5_
        clear n0_ n1_ n2_ n3_ n4_ n5_
        have n0_ := Aside0.mk (Kd.R_drew HO_8.out)
        have n1_ := Aside0.mk (blk_drew BK279.out)
        have n2_ := Aside0.mk (blk_drew BK280.out)
        have n3_ := Aside0.mk (blk_drew BK291.out)
        have n4_ := Aside0.mk (blk_drew BK299.out)
        have n5_ := Aside0.mk (below_drew1 HB.out)
        clear HO_8
        clear BK279
        clear BK280
        clear BK291
        clear BK299
        clear HB
        have HO_8 := n0_
        have BK279 := n1_
        have BK280 := n2_
        have BK291 := n3_
        have BK299 := n4_
        have HB := n5_
        clear n0_ n1_ n2_ n3_ n4_ n5_
        have p301 : 0 ≤ (((rd_T46 ((rd_T44 l0_0 a2).f4) x9_1).f2) : Int) := of_decide_eq_true (by first | (with_reducible assumption) | assumption)
        have q301 : ((rd_T46 ((rd_T44 l0_0 a2).f4) x9_1).f2) < (l1_0.length : Int) := of_decide_eq_true (by first | (with_reducible assumption) | assumption)
        obtain ⟨ad301, e301, hx301_0⟩ := Kd.at_int HR1_0.out ((rd_T46 ((rd_T44 l0_0 a2).f4) x9_1).f2) p301 q301
        have hw301_0 := hx301_0
        obtain rfl : ad300 = ad301 := (by injection e301)
        replace hx301_0 := (HB.out.cell (World.block_lt_of_cell? w _ hx301_0)).trans hx301_0
        replace p301 := eq_true p301
        replace q301 := eq_true q301
        have p302 : 0 ≤ (a2 : Int) := of_decide_eq_true (by first | (with_reducible assumption) | assumption)
        have q302 : a2 < (l1_0.length : Int) := of_decide_eq_true (by first | (with_reducible assumption) | assumption)
        obtain ⟨ad302, e302, hx302_0⟩ := Kd.at_int HR1_0.out a2 p302 q302
        have hw302_0 := hx302_0
        obtain rfl : ad300 = ad302 := (by injection e302)
        replace hx302_0 := (HB.out.cell (World.block_lt_of_cell? w _ hx302_0)).trans hx302_0
        replace p302 := eq_true p302
        replace q302 := eq_true q302
        refine start_ (n := 18) (S := fun w' => w'.cell? ⟨gb280, 0, none⟩ = some (.slice (some ad300) l1_0.length c1_0) ∧ w'.cell? ⟨gb280, 1, none⟩ = some (.slice A1_1 l1_1.length c1_1) ∧ w'.cell? ⟨gb280, 2, none⟩ = some (.int .i64 a1_2) ∧ w'.cell? ⟨gb280, 3, none⟩ = some (.int .i64 a1_3) ∧ w'.cell? ⟨gb280, 4, none⟩ = some (.int .i64 a1_4) ∧ w'.cell? ⟨gb291, 0, none⟩ = some (.int .i64 ((rd_T46 ((rd_T44 l0_0 a2).f4) x9_1).f0)) ∧ w'.cell? ⟨gb291, 1, none⟩ = some (.int .i64 ((rd_T46 ((rd_T44 l0_0 a2).f4) x9_1).f1)) ∧ w'.cell? ⟨gb291, 2, none⟩ = some (.int .i64 ((rd_T46 ((rd_T44 l0_0 a2).f4) x9_1).f2)) ∧ w'.cell? ⟨gb291, 3, none⟩ = some (.int .i64 ((rd_T46 ((rd_T44 l0_0 a2).f4) x9_1).f3)) ∧ w'.cell? (ad300.add (((rd_T46 ((rd_T44 l0_0 a2).f4) x9_1).f2)).toNat) = some (.int .i64 (rd l1_0 ((rd_T46 ((rd_T44 l0_0 a2).f4) x9_1).f2))) ∧ w'.cell? (ad300.add (a2).toNat) = some (.int .i64 (rd l1_0 a2))) (ds := []) #[false, false, false, false, false, false, false, false, false, false, false, false, false, false, false, false, false, false] (by kernel_rfl) rfl rfl ⟨(blk_cell BK280.out 0).trans rfl, (blk_cell BK280.out 1).trans rfl, (blk_cell BK280.out 2).trans rfl, (blk_cell BK280.out 3).trans rfl, (blk_cell BK280.out 4).trans rfl, (blk_cell BK291.out 0).trans rfl, (blk_cell BK291.out 1).trans rfl, (blk_cell BK291.out 2).trans rfl, (blk_cell BK291.out 3).trans rfl, ((HB.out.cell (World.block_lt_of_cell? w _ hw301_0)).trans hw301_0), ((HB.out.cell (World.block_lt_of_cell? w _ hw302_0)).trans hw302_0)⟩ (fun hHeld => ?_); refine with_tabW spliceref13_Code.tab10 spliceref13_Code.bits10 (fun HT_ HW_ => ?_)
        generalize w77.drew = w78 at HO_8 BK279 BK280 BK291 BK299 HB hx301_0 hx302_0 hHeld ⊢
        refine pure_ (i := 0) (N := some 61) (v := ?_) (a' := ?_) #[true, false, false, false, false, false, false, false, false, false, false, false, false, false, false, false, false, false] rfl rfl (any_of HT_.out (by kernel_rfl)) (fun _ _ _ h => h) (Or.inl ⟨by rfl, ?_⟩) ?_ ?_
        rotate_left
        ·
         intro w'
         go_simp
         with_reducible rfl
        rotate_left
        ·
         simp only [Act.put, List.setIfInBounds_toArray, List.set_cons_zero, List.set_cons_succ, i64_w, i32_w]
         rfl
        refine pure_ (i := 2) (N := some 63) (v := ?_) (a' := ?_) #[true, false, true, false, false, false, false, false, false, false, false, false, false, false, false, false, false, false] rfl rfl (any_of HT_.out (by kernel_rfl)) (fun _ _ _ h => h) (Or.inl ⟨by rfl, ?_⟩) ?_ ?_
        rotate_left
        ·
         intro w'
         go_simp
         with_reducible rfl
        rotate_left
        ·
         simp only [Act.put, List.setIfInBounds_toArray, List.set_cons_zero, List.set_cons_succ, i64_w, i32_w]
         rfl
        refine pure_ (i := 6) (N := some 67) (v := ?_) (a' := ?_) #[true, false, true, false, false, false, true, false, false, false, false, false, false, false, false, false, false, false] rfl rfl (any_of HT_.out (by kernel_rfl)) (fun _ _ _ h => h) (Or.inl ⟨by rfl, ?_⟩) ?_ ?_
        rotate_left
        ·
         intro w'
         go_simp
         with_reducible rfl
        rotate_left
        ·
         simp only [Act.put, List.setIfInBounds_toArray, List.set_cons_zero, List.set_cons_succ, i64_w, i32_w]
         rfl
        refine pure_ (i := 8) (N := some 69) (v := ?_) (a' := ?_) #[true, false, true, false, false, false, true, false, true, false, false, false, false, false, false, false, false, false] rfl rfl (any_of HT_.out (by kernel_rfl)) (fun _ _ _ h => h) (Or.inl ⟨by rfl, ?_⟩) ?_ ?_
        rotate_left
        ·
         intro w'
         go_simp
         with_reducible rfl
        rotate_left
        ·
         simp only [Act.put, List.setIfInBounds_toArray, List.set_cons_zero, List.set_cons_succ, i64_w, i32_w]
         rfl
        refine pure_ (i := 11) (N := some 72) (v := ?_) (a' := ?_) #[true, false, true, false, false, false, true, false, true, false, false, true, false, false, false, false, false, false] rfl rfl (any_of HT_.out (by kernel_rfl)) (fun _ _ _ h => h) (Or.inl ⟨by rfl, ?_⟩) ?_ ?_
        rotate_left
        ·
         intro w'
         go_simp
         with_reducible rfl
        rotate_left
        ·
         simp only [Act.put, List.setIfInBounds_toArray, List.set_cons_zero, List.set_cons_succ, i64_w, i32_w]
         rfl
        refine take_ (i := 1) (N := some 62) (v := ?_) (a' := ?_) #[true, true, true, false, false, false, true, false, true, false, false, true, false, false, false, false, false, false] rfl rfl (take_ofW HT_.out HW_.out (by kernel_rfl)) (fun _ _ _ h => h) (Or.inl ⟨by rfl, ?_⟩) hHeld ?_ ?_
        rotate_left
        ·
         rintro w' ⟨s0, s1, s2, s3, s4, s5, s6, s7, s8, s9, s10⟩
         go_simp
         with_reducible rfl
        rotate_left
        ·
         simp only [Act.put, List.setIfInBounds_toArray, List.set_cons_zero, List.set_cons_succ, i64_w, i32_w]
         rfl
        refine take_ (i := 3) (N := some 64) (v := ?_) (a' := ?_) #[true, true, true, true, false, false, true, false, true, false, false, true, false, false, false, false, false, false] rfl rfl (take_ofW HT_.out HW_.out (by kernel_rfl)) (fun _ _ _ h => h) (Or.inl ⟨by rfl, ?_⟩) hHeld ?_ ?_
        rotate_left
        ·
         rintro w' ⟨s0, s1, s2, s3, s4, s5, s6, s7, s8, s9, s10⟩
         go_simp
         with_reducible rfl
        rotate_left
        ·
         simp only [Act.put, List.setIfInBounds_toArray, List.set_cons_zero, List.set_cons_succ, i64_w, i32_w]
         rfl
        refine pure_ (i := 4) (N := some 65) (v := ?_) (a' := ?_) #[true, true, true, true, true, false, true, false, true, false, false, true, false, false, false, false, false, false] rfl rfl (any_of HT_.out (by kernel_rfl)) (fun _ _ _ h => h) (Or.inl ⟨by rfl, ?_⟩) ?_ ?_
        rotate_left
        ·
         intro w'
         go_simp
         with_reducible rfl
        rotate_left
        ·
         simp only [Act.put, List.setIfInBounds_toArray, List.set_cons_zero, List.set_cons_succ, i64_w, i32_w]
         rfl
        refine take_ (i := 5) (N := some 66) (v := ?_) (a' := ?_) #[true, true, true, true, true, true, true, false, true, false, false, true, false, false, false, false, false, false] rfl rfl (take_ofW HT_.out HW_.out (by kernel_rfl)) (fun _ _ _ h => h) (Or.inl ⟨by rfl, ?_⟩) hHeld ?_ ?_
        rotate_left
        ·
         rintro w' ⟨s0, s1, s2, s3, s4, s5, s6, s7, s8, s9, s10⟩
         go_simp
         with_reducible rfl
        rotate_left
        ·
         simp only [Act.put, List.setIfInBounds_toArray, List.set_cons_zero, List.set_cons_succ, i64_w, i32_w]
         rfl
        refine take_ (i := 7) (N := some 68) (v := ?_) (a' := ?_) #[true, true, true, true, true, true, true, true, true, false, false, true, false, false, false, false, false, false] rfl rfl (take_ofW HT_.out HW_.out (by kernel_rfl)) (fun _ _ _ h => h) (Or.inl ⟨by rfl, ?_⟩) hHeld ?_ ?_
        rotate_left
        ·
         rintro w' ⟨s0, s1, s2, s3, s4, s5, s6, s7, s8, s9, s10⟩
         go_simp
         with_reducible rfl
        rotate_left
        ·
         simp only [Act.put, List.setIfInBounds_toArray, List.set_cons_zero, List.set_cons_succ, i64_w, i32_w]
         rfl
        refine pure_ (i := 9) (N := some 70) (v := ?_) (a' := ?_) #[true, true, true, true, true, true, true, true, true, true, false, true, false, false, false, false, false, false] rfl rfl (any_of HT_.out (by kernel_rfl)) (fun _ _ _ h => h) (Or.inl ⟨by rfl, ?_⟩) ?_ ?_
        rotate_left
        ·
         intro w'
         go_simp
         with_reducible rfl
        rotate_left
        ·
         simp only [Act.put, List.setIfInBounds_toArray, List.set_cons_zero, List.set_cons_succ, i64_w, i32_w]
         rfl
        refine take_ (i := 10) (N := some 71) (v := ?_) (a' := ?_) #[true, true, true, true, true, true, true, true, true, true, true, true, false, false, false, false, false, false] rfl rfl (take_ofW HT_.out HW_.out (by kernel_rfl)) (fun _ _ _ h => h) (Or.inl ⟨by rfl, ?_⟩) hHeld ?_ ?_
        rotate_left
        ·
         rintro w' ⟨s0, s1, s2, s3, s4, s5, s6, s7, s8, s9, s10⟩
         go_simp
         with_reducible rfl
        rotate_left
        ·
         simp only [Act.put, List.setIfInBounds_toArray, List.set_cons_zero, List.set_cons_succ, i64_w, i32_w]
         rfl
        refine take_ (i := 12) (N := some 73) (v := ?_) (a' := ?_) #[true, true, true, true, true, true, true, true, true, true, true, true, true, false, false, false, false, false] rfl rfl (take_ofW HT_.out HW_.out (by kernel_rfl)) (fun _ _ _ h => h) (Or.inl ⟨by rfl, ?_⟩) hHeld ?_ ?_
        rotate_left
        ·
         rintro w' ⟨s0, s1, s2, s3, s4, s5, s6, s7, s8, s9, s10⟩
         go_simp
         with_reducible rfl
        rotate_left
        ·
         simp only [Act.put, List.setIfInBounds_toArray, List.set_cons_zero, List.set_cons_succ, i64_w, i32_w]
         rfl
        refine pure_ (i := 13) (N := some 74) (v := ?_) (a' := ?_) #[true, true, true, true, true, true, true, true, true, true, true, true, true, true, false, false, false, false] rfl rfl (any_of HT_.out (by kernel_rfl)) (fun _ _ _ h => h) (Or.inl ⟨by rfl, ?_⟩) ?_ ?_
        rotate_left
        ·
         intro w'
         go_simp
         with_reducible rfl
        rotate_left
        ·
         simp only [Act.put, List.setIfInBounds_toArray, List.set_cons_zero, List.set_cons_succ, i64_w, i32_w]
         rfl
        refine pure_ (i := 14) (N := some 75) (v := ?_) (a' := ?_) #[true, true, true, true, true, true, true, true, true, true, true, true, true, true, true, false, false, false] rfl rfl (any_of HT_.out (by kernel_rfl)) (fun _ _ _ h => h) (Or.inl ⟨by rfl, ?_⟩) ?_ ?_
        rotate_left
        ·
         intro w'
         go_simp
         with_reducible rfl
        rotate_left
        ·
         simp only [Act.put, List.setIfInBounds_toArray, List.set_cons_zero, List.set_cons_succ, i64_w, i32_w]
         rfl
        refine pure_ (i := 15) (N := some 76) (v := ?_) (a' := ?_) #[true, true, true, true, true, true, true, true, true, true, true, true, true, true, true, true, false, false] rfl rfl (any_of HT_.out (by kernel_rfl)) (fun _ _ _ h => h) (Or.inl ⟨by rfl, ?_⟩) ?_ ?_
        rotate_left
        ·
         intro w'
         go_simp
         with_reducible rfl
        rotate_left
        ·
         simp only [Act.put, List.setIfInBounds_toArray, List.set_cons_zero, List.set_cons_succ, i64_w, i32_w]
         rfl
        refine pure_ (i := 16) (N := some 77) (v := ?_) (a' := ?_) #[true, true, true, true, true, true, true, true, true, true, true, true, true, true, true, true, true, false] rfl rfl (any_of HT_.out (by kernel_rfl)) (fun _ _ _ h => h) (Or.inl ⟨by rfl, ?_⟩) ?_ ?_
        rotate_left
        ·
         intro w'
         go_simp
         with_reducible rfl
        rotate_left
        ·
         simp only [Act.put, List.setIfInBounds_toArray, List.set_cons_zero, List.set_cons_succ, i64_w, i32_w]
         rfl
        refine one_ (i := 17) (N := none) #[true, true, true, true, true, true, true, true, true, true, true, true, true, true, true, true, true, true] rfl rfl (one_of HT_.out (by kernel_rfl)) (by decide) (fun K hK => ?_)
        have hs79 : w78.cell? ⟨gb299, 4, none⟩ = some (.int .i64 t297) := (blk_cell BK299.out 4).trans rfl
        have hfs79 := blk_frozen BK299.out 4
        have hns79_0 := NB279_299.out
        have hns79_1 := NB280_299.out
        have hns79_2 := NB291_299.out
        have hms79_0 := NB299_279.out
        have hms79_1 := NB299_280.out
        have hms79_2 := NB299_291.out
        refine skip_ (w1 := ?_) (by rfl) rfl ?_ ?_
        rotate_left
        ·
         go_simp
         rfl
        refine hK.out _ _ ⟨((cell_far (p := ⟨gb299, _, none⟩) NB280_299.out _).trans (hHeld.1)), ((cell_far (p := ⟨gb299, _, none⟩) NB280_299.out _).trans (hHeld.2.1)), ((cell_far (p := ⟨gb299, _, none⟩) NB280_299.out _).trans (hHeld.2.2.1)), ((cell_far (p := ⟨gb299, _, none⟩) NB280_299.out _).trans (hHeld.2.2.2.1)), ((cell_far (p := ⟨gb299, _, none⟩) NB280_299.out _).trans (hHeld.2.2.2.2.1)), ((cell_far (p := ⟨gb299, _, none⟩) NB291_299.out _).trans (hHeld.2.2.2.2.2.1)), ((cell_far (p := ⟨gb299, _, none⟩) NB291_299.out _).trans (hHeld.2.2.2.2.2.2.1)), ((cell_far (p := ⟨gb299, _, none⟩) NB291_299.out _).trans (hHeld.2.2.2.2.2.2.2.1)), ((cell_far (p := ⟨gb299, _, none⟩) NB291_299.out _).trans (hHeld.2.2.2.2.2.2.2.2.1)), ((cell_far (p := ⟨gb299, _, none⟩) (by first | exact Nat.ne_of_lt (Nat.lt_of_lt_of_le (by have := World.block_lt_of_cell? _ _ hw301_0; first | rwa [add_block] at this | exact this) GW299.out) | (rw [add_block]; exact Nat.ne_of_lt (Nat.lt_of_lt_of_le (by have := World.block_lt_of_cell? _ _ hw301_0; first | rwa [add_block] at this | exact this) GW299.out)) | (show (Addr.add _ _).block ≠ _; rw [add_block]; exact Nat.ne_of_lt (Nat.lt_of_lt_of_le (by have := World.block_lt_of_cell? _ _ hw301_0; first | rwa [add_block] at this | exact this) GW299.out)) | (dsimp only; exact Nat.ne_of_lt (Nat.lt_of_lt_of_le (by have := World.block_lt_of_cell? _ _ hw301_0; first | rwa [add_block] at this | exact this) GW299.out))) _).trans (hHeld.2.2.2.2.2.2.2.2.2.1)), ((cell_far (p := ⟨gb299, _, none⟩) (by first | exact Nat.ne_of_lt (Nat.lt_of_lt_of_le (by have := World.block_lt_of_cell? _ _ hw302_0; first | rwa [add_block] at this | exact this) GW299.out) | (rw [add_block]; exact Nat.ne_of_lt (Nat.lt_of_lt_of_le (by have := World.block_lt_of_cell? _ _ hw302_0; first | rwa [add_block] at this | exact this) GW299.out)) | (show (Addr.add _ _).block ≠ _; rw [add_block]; exact Nat.ne_of_lt (Nat.lt_of_lt_of_le (by have := World.block_lt_of_cell? _ _ hw302_0; first | rwa [add_block] at this | exact this) GW299.out)) | (dsimp only; exact Nat.ne_of_lt (Nat.lt_of_lt_of_le (by have := World.block_lt_of_cell? _ _ hw302_0; first | rwa [add_block] at this | exact this) GW299.out))) _).trans (hHeld.2.2.2.2.2.2.2.2.2.2))⟩ (fun hHeld => ?_)
        clear hK K
        refine done_ (done_of HT_.out (by kernel_rfl)) ?_
        obtain ⟨hcz80_0, hcz80_1, hcz80_2, hcz80_3, hcz80_4⟩ := blkc40_5 BK299.out
        obtain ⟨hfz80_0, hfz80_1, hfz80_2, hfz80_3, hfz80_4⟩ := blkf40_5 BK299.out
        try go_wp2
        go_ret2
        exact ⟨_, by first | rfl | (simp [errW_none, errW_some] <;> rfl) | (simp [*, errW_none, errW_some] <;> rfl), by first | exact Kd.R_nil _ _ _ _ _ | exact Kd.N_nil _ _ _ _ _ | exact Kd.V_nil _ _ _ _ _ | exact Kd.Q_nil _ _ _ _ _ | exact Kd.S_nil _ _ _ _ _, by repeat (first | (with_reducible first | exact HB.out | apply below_alloc | apply pw_below_drewN | apply below_drew1 | refine below_set ?_ GE279.out | refine below_set ?_ GE280.out | refine below_set ?_ GE291.out | refine below_set ?_ GE299.out) | exact HB.out)⟩
       ·
        rw [if_neg c61] at H
        have c61b0 : decide (8388607 < (wrap64 ((rd l1_0 ((rd_T46 ((rd_T44 l0_0 a2).f4) x9_1).f2)) - (wrap64 ((wrap64 ((rd l1_0 a2) + ((rd_T46 ((rd_T44 l0_0 a2).f4) x9_1).f0))) + 1))))) = false := decide_eq_false c61
        clear c61
        replace H := Option.bind_eq_some_iff.mp H
        obtain ⟨t303, A810, H⟩ := H
        try dsimp only at H
        have A81 := Aside0.mk A810
        clear A810
        obtain ⟨y304, hy304⟩ : ∃ y_ : List Int, y_ = (x8_1.set (((rd_T46 ((rd_T44 l0_0 a2).f4) x9_1).f0) : Int).toNat t303) := ⟨_, rfl⟩
        (first | rw [Option.bind_some, ← hy304] at H | rw [← hy304] at H | skip)
        have Ny304 := Aside0.mk hy304
        clear hy304
        have H' := Aside0.mk H
        clear H
        refine Eq.mpr hP_.out ?_
        try go_wp2_with fail
        obtain ⟨w98, hw98_⟩ : ∃ w_ : World, w_ = (((((w33.setCell ⟨gb299, 0, none⟩ (.int .i64 t293)).setCell ⟨gb299, 1, none⟩ (.int .i64 t294)).setCell ⟨gb299, 2, none⟩ (.int .i64 t295)).setCell ⟨gb299, 3, none⟩ (.int .i64 t296)).setCell ⟨gb299, 4, none⟩ (.int .i64 t297)) := ⟨_, rfl⟩
        have n0_ : Aside0 (Kd.R (Kd.int .u32) 47 w98 w.heap.size (fun _ => True) (.slice (some ad292) x8_1.length co31) x8_1) := ⟨by rw [hw98_]; (with_reducible repeat (first | apply Kd.R_alloc | apply Kd.R_drewN | apply Kd.R_drew)); exact Kd.R_mono (Kd.R_far (p := ⟨gb299, 4, none⟩) (Kd.R_far (p := ⟨gb299, 3, none⟩) (Kd.R_far (p := ⟨gb299, 2, none⟩) (Kd.R_far (p := ⟨gb299, 1, none⟩) (Kd.R_far (p := ⟨gb299, 0, none⟩) (Kd.R_types HO_8.out BK299.out (by decide)) (fun _ hk => hk.2) (.int .i64 t293)) (fun _ hk => hk.2) (.int .i64 t294)) (fun _ hk => hk.2) (.int .i64 t295)) (fun _ hk => hk.2) (.int .i64 t296)) (fun _ hk => hk.2) (.int .i64 t297)) (fun _ hk => trivial)⟩
        have n1_ : Aside0 (w98.heap[gb279]? = some (.cells #[.slice (some ad284) l0_0.length c0_0, .slice A0_1 l0_1.length c0_1, .int .i64 a0_2] 25 (0, 0))) := ⟨by rw [hw98_]; (with_reducible repeat (first | refine blk_drewN ?_ _ | refine blk_drew ?_ | refine blk_alloc ?_ _)); refine blk_far ?_ NB279_299.out _; (with_reducible repeat (first | refine blk_drewN ?_ _ | refine blk_drew ?_ | refine blk_alloc ?_ _)); refine blk_far ?_ NB279_299.out _; (with_reducible repeat (first | refine blk_drewN ?_ _ | refine blk_drew ?_ | refine blk_alloc ?_ _)); refine blk_far ?_ NB279_299.out _; (with_reducible repeat (first | refine blk_drewN ?_ _ | refine blk_drew ?_ | refine blk_alloc ?_ _)); refine blk_far ?_ NB279_299.out _; (with_reducible repeat (first | refine blk_drewN ?_ _ | refine blk_drew ?_ | refine blk_alloc ?_ _)); refine blk_far ?_ NB279_299.out _; (with_reducible repeat (first | refine blk_drewN ?_ _ | refine blk_drew ?_ | refine blk_alloc ?_ _)); exact BK279.out⟩
        have n2_ : Aside0 (w98.heap[gb280]? = some (.cells #[.slice (some ad300) l1_0.length c1_0, .slice A1_1 l1_1.length c1_1, .int .i64 a1_2, .int .i64 a1_3, .int .i64 a1_4] 30 (0, 0))) := ⟨by rw [hw98_]; (with_reducible repeat (first | refine blk_drewN ?_ _ | refine blk_drew ?_ | refine blk_alloc ?_ _)); refine blk_far ?_ NB280_299.out _; (with_reducible repeat (first | refine blk_drewN ?_ _ | refine blk_drew ?_ | refine blk_alloc ?_ _)); refine blk_far ?_ NB280_299.out _; (with_reducible repeat (first | refine blk_drewN ?_ _ | refine blk_drew ?_ | refine blk_alloc ?_ _)); refine blk_far ?_ NB280_299.out _; (with_reducible repeat (first | refine blk_drewN ?_ _ | refine blk_drew ?_ | refine blk_alloc ?_ _)); refine blk_far ?_ NB280_299.out _; (with_reducible repeat (first | refine blk_drewN ?_ _ | refine blk_drew ?_ | refine blk_alloc ?_ _)); refine blk_far ?_ NB280_299.out _; (with_reducible repeat (first | refine blk_drewN ?_ _ | refine blk_drew ?_ | refine blk_alloc ?_ _)); exact BK280.out⟩
        have n3_ : Aside0 (w98.heap[gb291]? = some (.cells #[.int .i64 ((rd_T46 ((rd_T44 l0_0 a2).f4) x9_1).f0), .int .i64 ((rd_T46 ((rd_T44 l0_0 a2).f4) x9_1).f1), .int .i64 ((rd_T46 ((rd_T44 l0_0 a2).f4) x9_1).f2), .int .i64 ((rd_T46 ((rd_T44 l0_0 a2).f4) x9_1).f3)] 46 (0, 0))) := ⟨by rw [hw98_]; (with_reducible repeat (first | refine blk_drewN ?_ _ | refine blk_drew ?_ | refine blk_alloc ?_ _)); refine blk_far ?_ NB291_299.out _; (with_reducible repeat (first | refine blk_drewN ?_ _ | refine blk_drew ?_ | refine blk_alloc ?_ _)); refine blk_far ?_ NB291_299.out _; (with_reducible repeat (first | refine blk_drewN ?_ _ | refine blk_drew ?_ | refine blk_alloc ?_ _)); refine blk_far ?_ NB291_299.out _; (with_reducible repeat (first | refine blk_drewN ?_ _ | refine blk_drew ?_ | refine blk_alloc ?_ _)); refine blk_far ?_ NB291_299.out _; (with_reducible repeat (first | refine blk_drewN ?_ _ | refine blk_drew ?_ | refine blk_alloc ?_ _)); refine blk_far ?_ NB291_299.out _; (with_reducible repeat (first | refine blk_drewN ?_ _ | refine blk_drew ?_ | refine blk_alloc ?_ _)); exact BK291.out⟩
        have n4_ : Aside0 (w98.heap[gb299]? = some (.cells #[.int .i64 t293, .int .i64 t294, .int .i64 t295, .int .i64 t296, .int .i64 t297] 49 (0, 0))) := ⟨by rw [hw98_]; (with_reducible repeat (first | refine blk_drewN ?_ _ | refine blk_drew ?_ | refine blk_alloc ?_ _)); refine blk_put (cs := #[.int .i64 t293, .int .i64 t294, .int .i64 t295, .int .i64 t296, .int .i64 0]) ?_ 4 _ rfl; (with_reducible repeat (first | refine blk_drewN ?_ _ | refine blk_drew ?_ | refine blk_alloc ?_ _)); refine blk_put (cs := #[.int .i64 t293, .int .i64 t294, .int .i64 t295, .int .i64 0, .int .i64 0]) ?_ 3 _ rfl; (with_reducible repeat (first | refine blk_drewN ?_ _ | refine blk_drew ?_ | refine blk_alloc ?_ _)); refine blk_put (cs := #[.int .i64 t293, .int .i64 t294, .int .i64 0, .int .i64 0, .int .i64 0]) ?_ 2 _ rfl; (with_reducible repeat (first | refine blk_drewN ?_ _ | refine blk_drew ?_ | refine blk_alloc ?_ _)); refine blk_put (cs := #[.int .i64 t293, .int .i64 0, .int .i64 0, .int .i64 0, .int .i64 0]) ?_ 1 _ rfl; (with_reducible repeat (first | refine blk_drewN ?_ _ | refine blk_drew ?_ | refine blk_alloc ?_ _)); refine blk_put (cs := #[.int .i64 0, .int .i64 0, .int .i64 0, .int .i64 0, .int .i64 0]) ?_ 0 _ rfl; (with_reducible repeat (first | refine blk_drewN ?_ _ | refine blk_drew ?_ | refine blk_alloc ?_ _)); exact BK299.out⟩
        have n5_ : Aside0 (Below w.heap.size w w98) := ⟨by rw [hw98_]; repeat (first | (with_reducible first | exact HB.out | apply below_alloc | apply pw_below_drewN | apply below_drew1 | refine below_set ?_ GE279.out | refine below_set ?_ GE280.out | refine below_set ?_ GE291.out | refine below_set ?_ GE299.out) | exact HB.out)⟩
        (try clear HO_8)
        (try clear BK279)
        (try clear BK280)
        (try clear BK291)
        (try clear BK299)
        (try clear HB)
        (try rw [← hw98_])
        clear hw98_
        have HO_8 := n0_
        have BK279 := n1_
        have BK280 := n2_
        have BK291 := n3_
        have BK299 := n4_
        have HB := n5_
        clear n0_ n1_ n2_ n3_ n4_ n5_
        have n0_ := Aside0.mk (Kd.R_drew HO_8.out)
        have n1_ := Aside0.mk (blk_drew BK279.out)
        have n2_ := Aside0.mk (blk_drew BK280.out)
        have n3_ := Aside0.mk (blk_drew BK291.out)
        have n4_ := Aside0.mk (blk_drew BK299.out)
        have n5_ := Aside0.mk (below_drew1 HB.out)
        clear HO_8
        clear BK279
        clear BK280
        clear BK291
        clear BK299
        clear HB
        have HO_8 := n0_
        have BK279 := n1_
        have BK280 := n2_
        have BK291 := n3_
        have BK299 := n4_
        have HB := n5_
        clear n0_ n1_ n2_ n3_ n4_ n5_
        have p301 : 0 ≤ (((rd_T46 ((rd_T44 l0_0 a2).f4) x9_1).f2) : Int) := of_decide_eq_true (by first | (with_reducible assumption) | assumption)
        have q301 : ((rd_T46 ((rd_T44 l0_0 a2).f4) x9_1).f2) < (l1_0.length : Int) := of_decide_eq_true (by first | (with_reducible assumption) | assumption)
        obtain ⟨ad301, e301, hx301_0⟩ := Kd.at_int HR1_0.out ((rd_T46 ((rd_T44 l0_0 a2).f4) x9_1).f2) p301 q301
        have hw301_0 := hx301_0
        obtain rfl : ad300 = ad301 := (by injection e301)
        replace hx301_0 := (HB.out.cell (World.block_lt_of_cell? w _ hx301_0)).trans hx301_0
        replace p301 := eq_true p301
        replace q301 := eq_true q301
        have p302 : 0 ≤ (a2 : Int) := of_decide_eq_true (by first | (with_reducible assumption) | assumption)
        have q302 : a2 < (l1_0.length : Int) := of_decide_eq_true (by first | (with_reducible assumption) | assumption)
        obtain ⟨ad302, e302, hx302_0⟩ := Kd.at_int HR1_0.out a2 p302 q302
        have hw302_0 := hx302_0
        obtain rfl : ad300 = ad302 := (by injection e302)
        replace hx302_0 := (HB.out.cell (World.block_lt_of_cell? w _ hx302_0)).trans hx302_0
        replace p302 := eq_true p302
        replace q302 := eq_true q302
        refine start_ (n := 18) (S := fun w' => w'.cell? ⟨gb280, 0, none⟩ = some (.slice (some ad300) l1_0.length c1_0) ∧ w'.cell? ⟨gb280, 1, none⟩ = some (.slice A1_1 l1_1.length c1_1) ∧ w'.cell? ⟨gb280, 2, none⟩ = some (.int .i64 a1_2) ∧ w'.cell? ⟨gb280, 3, none⟩ = some (.int .i64 a1_3) ∧ w'.cell? ⟨gb280, 4, none⟩ = some (.int .i64 a1_4) ∧ w'.cell? ⟨gb291, 0, none⟩ = some (.int .i64 ((rd_T46 ((rd_T44 l0_0 a2).f4) x9_1).f0)) ∧ w'.cell? ⟨gb291, 1, none⟩ = some (.int .i64 ((rd_T46 ((rd_T44 l0_0 a2).f4) x9_1).f1)) ∧ w'.cell? ⟨gb291, 2, none⟩ = some (.int .i64 ((rd_T46 ((rd_T44 l0_0 a2).f4) x9_1).f2)) ∧ w'.cell? ⟨gb291, 3, none⟩ = some (.int .i64 ((rd_T46 ((rd_T44 l0_0 a2).f4) x9_1).f3)) ∧ w'.cell? (ad300.add (((rd_T46 ((rd_T44 l0_0 a2).f4) x9_1).f2)).toNat) = some (.int .i64 (rd l1_0 ((rd_T46 ((rd_T44 l0_0 a2).f4) x9_1).f2))) ∧ w'.cell? (ad300.add (a2).toNat) = some (.int .i64 (rd l1_0 a2))) (ds := []) #[false, false, false, false, false, false, false, false, false, false, false, false, false, false, false, false, false, false] (by kernel_rfl) rfl rfl ⟨(blk_cell BK280.out 0).trans rfl, (blk_cell BK280.out 1).trans rfl, (blk_cell BK280.out 2).trans rfl, (blk_cell BK280.out 3).trans rfl, (blk_cell BK280.out 4).trans rfl, (blk_cell BK291.out 0).trans rfl, (blk_cell BK291.out 1).trans rfl, (blk_cell BK291.out 2).trans rfl, (blk_cell BK291.out 3).trans rfl, ((HB.out.cell (World.block_lt_of_cell? w _ hw301_0)).trans hw301_0), ((HB.out.cell (World.block_lt_of_cell? w _ hw302_0)).trans hw302_0)⟩ (fun hHeld => ?_); refine with_tabW spliceref13_Code.tab10 spliceref13_Code.bits10 (fun HT_ HW_ => ?_)
        generalize w98.drew = w99 at HO_8 BK279 BK280 BK291 BK299 HB hx301_0 hx302_0 hHeld ⊢
        refine pure_ (i := 0) (N := some 61) (v := ?_) (a' := ?_) #[true, false, false, false, false, false, false, false, false, false, false, false, false, false, false, false, false, false] rfl rfl (any_of HT_.out (by kernel_rfl)) (fun _ _ _ h => h) (Or.inl ⟨by rfl, ?_⟩) ?_ ?_
        rotate_left
        ·
         intro w'
         go_simp
         with_reducible rfl
        rotate_left
        ·
         simp only [Act.put, List.setIfInBounds_toArray, List.set_cons_zero, List.set_cons_succ, i64_w, i32_w]
         rfl
        refine pure_ (i := 2) (N := some 63) (v := ?_) (a' := ?_) #[true, false, true, false, false, false, false, false, false, false, false, false, false, false, false, false, false, false] rfl rfl (any_of HT_.out (by kernel_rfl)) (fun _ _ _ h => h) (Or.inl ⟨by rfl, ?_⟩) ?_ ?_
        rotate_left
        ·
         intro w'
         go_simp
         with_reducible rfl
        rotate_left
        ·
         simp only [Act.put, List.setIfInBounds_toArray, List.set_cons_zero, List.set_cons_succ, i64_w, i32_w]
         rfl
        refine pure_ (i := 6) (N := some 67) (v := ?_) (a' := ?_) #[true, false, true, false, false, false, true, false, false, false, false, false, false, false, false, false, false, false] rfl rfl (any_of HT_.out (by kernel_rfl)) (fun _ _ _ h => h) (Or.inl ⟨by rfl, ?_⟩) ?_ ?_
        rotate_left
        ·
         intro w'
         go_simp
         with_reducible rfl
        rotate_left
        ·
         simp only [Act.put, List.setIfInBounds_toArray, List.set_cons_zero, List.set_cons_succ, i64_w, i32_w]
         rfl
        refine pure_ (i := 8) (N := some 69) (v := ?_) (a' := ?_) #[true, false, true, false, false, false, true, false, true, false, false, false, false, false, false, false, false, false] rfl rfl (any_of HT_.out (by kernel_rfl)) (fun _ _ _ h => h) (Or.inl ⟨by rfl, ?_⟩) ?_ ?_
        rotate_left
        ·
         intro w'
         go_simp
         with_reducible rfl
        rotate_left
        ·
         simp only [Act.put, List.setIfInBounds_toArray, List.set_cons_zero, List.set_cons_succ, i64_w, i32_w]
         rfl
        refine pure_ (i := 11) (N := some 72) (v := ?_) (a' := ?_) #[true, false, true, false, false, false, true, false, true, false, false, true, false, false, false, false, false, false] rfl rfl (any_of HT_.out (by kernel_rfl)) (fun _ _ _ h => h) (Or.inl ⟨by rfl, ?_⟩) ?_ ?_
        rotate_left
        ·
         intro w'
         go_simp
         with_reducible rfl
        rotate_left
        ·
         simp only [Act.put, List.setIfInBounds_toArray, List.set_cons_zero, List.set_cons_succ, i64_w, i32_w]
         rfl
        refine take_ (i := 1) (N := some 62) (v := ?_) (a' := ?_) #[true, true, true, false, false, false, true, false, true, false, false, true, false, false, false, false, false, false] rfl rfl (take_ofW HT_.out HW_.out (by kernel_rfl)) (fun _ _ _ h => h) (Or.inl ⟨by rfl, ?_⟩) hHeld ?_ ?_
        rotate_left
        ·
         rintro w' ⟨s0, s1, s2, s3, s4, s5, s6, s7, s8, s9, s10⟩
         go_simp
         with_reducible rfl
        rotate_left
        ·
         simp only [Act.put, List.setIfInBounds_toArray, List.set_cons_zero, List.set_cons_succ, i64_w, i32_w]
         rfl
        refine take_ (i := 3) (N := some 64) (v := ?_) (a' := ?_) #[true, true, true, true, false, false, true, false, true, false, false, true, false, false, false, false, false, false] rfl rfl (take_ofW HT_.out HW_.out (by kernel_rfl)) (fun _ _ _ h => h) (Or.inl ⟨by rfl, ?_⟩) hHeld ?_ ?_
        rotate_left
        ·
         rintro w' ⟨s0, s1, s2, s3, s4, s5, s6, s7, s8, s9, s10⟩
         go_simp
         with_reducible rfl
        rotate_left
        ·
         simp only [Act.put, List.setIfInBounds_toArray, List.set_cons_zero, List.set_cons_succ, i64_w, i32_w]
         rfl
        refine pure_ (i := 4) (N := some 65) (v := ?_) (a' := ?_) #[true, true, true, true, true, false, true, false, true, false, false, true, false, false, false, false, false, false] rfl rfl (any_of HT_.out (by kernel_rfl)) (fun _ _ _ h => h) (Or.inl ⟨by rfl, ?_⟩) ?_ ?_
        rotate_left
        ·
         intro w'
         go_simp
         with_reducible rfl
        rotate_left
        ·
         simp only [Act.put, List.setIfInBounds_toArray, List.set_cons_zero, List.set_cons_succ, i64_w, i32_w]
         rfl
        refine take_ (i := 5) (N := some 66) (v := ?_) (a' := ?_) #[true, true, true, true, true, true, true, false, true, false, false, true, false, false, false, false, false, false] rfl rfl (take_ofW HT_.out HW_.out (by kernel_rfl)) (fun _ _ _ h => h) (Or.inl ⟨by rfl, ?_⟩) hHeld ?_ ?_
        rotate_left
        ·
         rintro w' ⟨s0, s1, s2, s3, s4, s5, s6, s7, s8, s9, s10⟩
         go_simp
         with_reducible rfl
        rotate_left
        ·
         simp only [Act.put, List.setIfInBounds_toArray, List.set_cons_zero, List.set_cons_succ, i64_w, i32_w]
         rfl
        refine take_ (i := 7) (N := some 68) (v := ?_) (a' := ?_) #[true, true, true, true, true, true, true, true, true, false, false, true, false, false, false, false, false, false] rfl rfl (take_ofW HT_.out HW_.out (by kernel_rfl)) (fun _ _ _ h => h) (Or.inl ⟨by rfl, ?_⟩) hHeld ?_ ?_
        rotate_left
        ·
         rintro w' ⟨s0, s1, s2, s3, s4, s5, s6, s7, s8, s9, s10⟩
         go_simp
         with_reducible rfl
        rotate_left
        ·
         simp only [Act.put, List.setIfInBounds_toArray, List.set_cons_zero, List.set_cons_succ, i64_w, i32_w]
         rfl
        refine pure_ (i := 9) (N := some 70) (v := ?_) (a' := ?_) #[true, true, true, true, true, true, true, true, true, true, false, true, false, false, false, false, false, false] rfl rfl (any_of HT_.out (by kernel_rfl)) (fun _ _ _ h => h) (Or.inl ⟨by rfl, ?_⟩) ?_ ?_
        rotate_left
        ·
         intro w'
         go_simp
         with_reducible rfl
        rotate_left
        ·
         simp only [Act.put, List.setIfInBounds_toArray, List.set_cons_zero, List.set_cons_succ, i64_w, i32_w]
         rfl
        refine take_ (i := 10) (N := some 71) (v := ?_) (a' := ?_) #[true, true, true, true, true, true, true, true, true, true, true, true, false, false, false, false, false, false] rfl rfl (take_ofW HT_.out HW_.out (by kernel_rfl)) (fun _ _ _ h => h) (Or.inl ⟨by rfl, ?_⟩) hHeld ?_ ?_
        rotate_left
        ·
         rintro w' ⟨s0, s1, s2, s3, s4, s5, s6, s7, s8, s9, s10⟩
         go_simp
         with_reducible rfl
        rotate_left
        ·
         simp only [Act.put, List.setIfInBounds_toArray, List.set_cons_zero, List.set_cons_succ, i64_w, i32_w]
         rfl
        refine take_ (i := 12) (N := some 73) (v := ?_) (a' := ?_) #[true, true, true, true, true, true, true, true, true, true, true, true, true, false, false, false, false, false] rfl rfl (take_ofW HT_.out HW_.out (by kernel_rfl)) (fun _ _ _ h => h) (Or.inl ⟨by rfl, ?_⟩) hHeld ?_ ?_
        rotate_left
        ·
         rintro w' ⟨s0, s1, s2, s3, s4, s5, s6, s7, s8, s9, s10⟩
         go_simp
         with_reducible rfl
        rotate_left
        ·
         simp only [Act.put, List.setIfInBounds_toArray, List.set_cons_zero, List.set_cons_succ, i64_w, i32_w]
         rfl
        refine pure_ (i := 13) (N := some 74) (v := ?_) (a' := ?_) #[true, true, true, true, true, true, true, true, true, true, true, true, true, true, false, false, false, false] rfl rfl (any_of HT_.out (by kernel_rfl)) (fun _ _ _ h => h) (Or.inl ⟨by rfl, ?_⟩) ?_ ?_
        rotate_left
        ·
         intro w'
         go_simp
         with_reducible rfl
        rotate_left
        ·
         simp only [Act.put, List.setIfInBounds_toArray, List.set_cons_zero, List.set_cons_succ, i64_w, i32_w]
         rfl
        refine pure_ (i := 14) (N := some 75) (v := ?_) (a' := ?_) #[true, true, true, true, true, true, true, true, true, true, true, true, true, true, true, false, false, false] rfl rfl (any_of HT_.out (by kernel_rfl)) (fun _ _ _ h => h) (Or.inl ⟨by rfl, ?_⟩) ?_ ?_
        rotate_left
        ·
         intro w'
         go_simp
         with_reducible rfl
        rotate_left
        ·
         simp only [Act.put, List.setIfInBounds_toArray, List.set_cons_zero, List.set_cons_succ, i64_w, i32_w]
         rfl
        refine pure_ (i := 15) (N := some 76) (v := ?_) (a' := ?_) #[true, true, true, true, true, true, true, true, true, true, true, true, true, true, true, true, false, false] rfl rfl (any_of HT_.out (by kernel_rfl)) (fun _ _ _ h => h) (Or.inl ⟨by rfl, ?_⟩) ?_ ?_
        rotate_left
        ·
         intro w'
         go_simp
         with_reducible rfl
        rotate_left
        ·
         simp only [Act.put, List.setIfInBounds_toArray, List.set_cons_zero, List.set_cons_succ, i64_w, i32_w]
         rfl
        refine pure_ (i := 16) (N := some 77) (v := ?_) (a' := ?_) #[true, true, true, true, true, true, true, true, true, true, true, true, true, true, true, true, true, false] rfl rfl (any_of HT_.out (by kernel_rfl)) (fun _ _ _ h => h) (Or.inl ⟨by rfl, ?_⟩) ?_ ?_
        rotate_left
        ·
         intro w'
         go_simp
         with_reducible rfl
        rotate_left
        ·
         simp only [Act.put, List.setIfInBounds_toArray, List.set_cons_zero, List.set_cons_succ, i64_w, i32_w]
         rfl
        refine one_ (i := 17) (N := none) #[true, true, true, true, true, true, true, true, true, true, true, true, true, true, true, true, true, true] rfl rfl (one_of HT_.out (by kernel_rfl)) (by decide) (fun K hK => ?_)
        have hs100 : w99.cell? ⟨gb299, 4, none⟩ = some (.int .i64 t297) := (blk_cell BK299.out 4).trans rfl
        have hfs100 := blk_frozen BK299.out 4
        have hns100_0 := NB279_299.out
        have hns100_1 := NB280_299.out
        have hns100_2 := NB291_299.out
        have hms100_0 := NB299_279.out
        have hms100_1 := NB299_280.out
        have hms100_2 := NB299_291.out
        refine skip_ (w1 := ?_) (by rfl) rfl ?_ ?_
        rotate_left
        ·
         go_simp
         rfl
        refine hK.out _ _ ⟨((cell_far (p := ⟨gb299, _, none⟩) NB280_299.out _).trans (hHeld.1)), ((cell_far (p := ⟨gb299, _, none⟩) NB280_299.out _).trans (hHeld.2.1)), ((cell_far (p := ⟨gb299, _, none⟩) NB280_299.out _).trans (hHeld.2.2.1)), ((cell_far (p := ⟨gb299, _, none⟩) NB280_299.out _).trans (hHeld.2.2.2.1)), ((cell_far (p := ⟨gb299, _, none⟩) NB280_299.out _).trans (hHeld.2.2.2.2.1)), ((cell_far (p := ⟨gb299, _, none⟩) NB291_299.out _).trans (hHeld.2.2.2.2.2.1)), ((cell_far (p := ⟨gb299, _, none⟩) NB291_299.out _).trans (hHeld.2.2.2.2.2.2.1)), ((cell_far (p := ⟨gb299, _, none⟩) NB291_299.out _).trans (hHeld.2.2.2.2.2.2.2.1)), ((cell_far (p := ⟨gb299, _, none⟩) NB291_299.out _).trans (hHeld.2.2.2.2.2.2.2.2.1)), ((cell_far (p := ⟨gb299, _, none⟩) (by first | exact Nat.ne_of_lt (Nat.lt_of_lt_of_le (by have := World.block_lt_of_cell? _ _ hw301_0; first | rwa [add_block] at this | exact this) GW299.out) | (rw [add_block]; exact Nat.ne_of_lt (Nat.lt_of_lt_of_le (by have := World.block_lt_of_cell? _ _ hw301_0; first | rwa [add_block] at this | exact this) GW299.out)) | (show (Addr.add _ _).block ≠ _; rw [add_block]; exact Nat.ne_of_lt (Nat.lt_of_lt_of_le (by have := World.block_lt_of_cell? _ _ hw301_0; first | rwa [add_block] at this | exact this) GW299.out)) | (dsimp only; exact Nat.ne_of_lt (Nat.lt_of_lt_of_le (by have := World.block_lt_of_cell? _ _ hw301_0; first | rwa [add_block] at this | exact this) GW299.out))) _).trans (hHeld.2.2.2.2.2.2.2.2.2.1)), ((cell_far (p := ⟨gb299, _, none⟩) (by first | exact Nat.ne_of_lt (Nat.lt_of_lt_of_le (by have := World.block_lt_of_cell? _ _ hw302_0; first | rwa [add_block] at this | exact this) GW299.out) | (rw [add_block]; exact Nat.ne_of_lt (Nat.lt_of_lt_of_le (by have := World.block_lt_of_cell? _ _ hw302_0; first | rwa [add_block] at this | exact this) GW299.out)) | (show (Addr.add _ _).block ≠ _; rw [add_block]; exact Nat.ne_of_lt (Nat.lt_of_lt_of_le (by have := World.block_lt_of_cell? _ _ hw302_0; first | rwa [add_block] at this | exact this) GW299.out)) | (dsimp only; exact Nat.ne_of_lt (Nat.lt_of_lt_of_le (by have := World.block_lt_of_cell? _ _ hw302_0; first | rwa [add_block] at this | exact this) GW299.out))) _).trans (hHeld.2.2.2.2.2.2.2.2.2.2))⟩ (fun hHeld => ?_)
        clear hK K
        refine done_ (done_of HT_.out (by kernel_rfl)) ?_
        obtain ⟨hcz101_0, hcz101_1, hcz101_2, hcz101_3, hcz101_4⟩ := blkc40_5 BK299.out
        obtain ⟨hfz101_0, hfz101_1, hfz101_2, hfz101_3, hfz101_4⟩ := blkf40_5 BK299.out
        try go_wp2
        obtain ⟨w102, hw102_⟩ : ∃ w_ : World, w_ = (w99.setCell ⟨gb299, 4, none⟩ (.int .i64 (wrap64 ((rd l1_0 ((rd_T46 ((rd_T44 l0_0 a2).f4) x9_1).f2)) - (wrap64 ((wrap64 ((rd l1_0 a2) + ((rd_T46 ((rd_T44 l0_0 a2).f4) x9_1).f0))) + 1)))))) := ⟨_, rfl⟩
        have n0_ : Aside0 (Kd.R (Kd.int .u32) 47 w102 w.heap.size (fun _ => True) (.slice (some ad292) x8_1.length co31) x8_1) := ⟨by rw [hw102_]; (with_reducible repeat (first | apply Kd.R_alloc | apply Kd.R_drewN | apply Kd.R_drew)); exact Kd.R_mono (Kd.R_far (p := ⟨gb299, 4, none⟩) (Kd.R_types HO_8.out BK299.out (by decide)) (fun _ hk => hk.2) (.int .i64 (wrap64 ((rd l1_0 ((rd_T46 ((rd_T44 l0_0 a2).f4) x9_1).f2)) - (wrap64 ((wrap64 ((rd l1_0 a2) + ((rd_T46 ((rd_T44 l0_0 a2).f4) x9_1).f0))) + 1)))))) (fun _ hk => trivial)⟩
        have n1_ : Aside0 (w102.heap[gb279]? = some (.cells #[.slice (some ad284) l0_0.length c0_0, .slice A0_1 l0_1.length c0_1, .int .i64 a0_2] 25 (0, 0))) := ⟨by rw [hw102_]; (with_reducible repeat (first | refine blk_drewN ?_ _ | refine blk_drew ?_ | refine blk_alloc ?_ _)); refine blk_far ?_ NB279_299.out _; (with_reducible repeat (first | refine blk_drewN ?_ _ | refine blk_drew ?_ | refine blk_alloc ?_ _)); exact BK279.out⟩
        have n2_ : Aside0 (w102.heap[gb280]? = some (.cells #[.slice (some ad300) l1_0.length c1_0, .slice A1_1 l1_1.length c1_1, .int .i64 a1_2, .int .i64 a1_3, .int .i64 a1_4] 30 (0, 0))) := ⟨by rw [hw102_]; (with_reducible repeat (first | refine blk_drewN ?_ _ | refine blk_drew ?_ | refine blk_alloc ?_ _)); refine blk_far ?_ NB280_299.out _; (with_reducible repeat (first | refine blk_drewN ?_ _ | refine blk_drew ?_ | refine blk_alloc ?_ _)); exact BK280.out⟩
        have n3_ : Aside0 (w102.heap[gb291]? = some (.cells #[.int .i64 ((rd_T46 ((rd_T44 l0_0 a2).f4) x9_1).f0), .int .i64 ((rd_T46 ((rd_T44 l0_0 a2).f4) x9_1).f1), .int .i64 ((rd_T46 ((rd_T44 l0_0 a2).f4) x9_1).f2), .int .i64 ((rd_T46 ((rd_T44 l0_0 a2).f4) x9_1).f3)] 46 (0, 0))) := ⟨by rw [hw102_]; (with_reducible repeat (first | refine blk_drewN ?_ _ | refine blk_drew ?_ | refine blk_alloc ?_ _)); refine blk_far ?_ NB291_299.out _; (with_reducible repeat (first | refine blk_drewN ?_ _ | refine blk_drew ?_ | refine blk_alloc ?_ _)); exact BK291.out⟩
        have n4_ : Aside0 (w102.heap[gb299]? = some (.cells #[.int .i64 t293, .int .i64 t294, .int .i64 t295, .int .i64 t296, .int .i64 (wrap64 ((rd l1_0 ((rd_T46 ((rd_T44 l0_0 a2).f4) x9_1).f2)) - (wrap64 ((wrap64 ((rd l1_0 a2) + ((rd_T46 ((rd_T44 l0_0 a2).f4) x9_1).f0))) + 1))))] 49 (0, 0))) := ⟨by rw [hw102_]; (with_reducible repeat (first | refine blk_drewN ?_ _ | refine blk_drew ?_ | refine blk_alloc ?_ _)); refine blk_put (cs := #[.int .i64 t293, .int .i64 t294, .int .i64 t295, .int .i64 t296, .int .i64 t297]) ?_ 4 _ rfl; (with_reducible repeat (first | refine blk_drewN ?_ _ | refine blk_drew ?_ | refine blk_alloc ?_ _)); exact BK299.out⟩
        have n5_ : Aside0 (Below w.heap.size w w102) := ⟨by rw [hw102_]; repeat (first | (with_reducible first | exact HB.out | apply below_alloc | apply pw_below_drewN | apply below_drew1 | refine below_set ?_ GE279.out | refine below_set ?_ GE280.out | refine below_set ?_ GE291.out | refine below_set ?_ GE299.out) | exact HB.out)⟩
        (try clear HO_8)
        (try clear BK279)
        (try clear BK280)
        (try clear BK291)
        (try clear BK299)
        (try clear HB)
        (try rw [← hw102_])
        clear hw102_
        have HO_8 := n0_
        have BK279 := n1_
        have BK280 := n2_
        have BK291 := n3_
        have BK299 := n4_
        have HB := n5_
        clear n0_ n1_ n2_ n3_ n4_ n5_
        have n0_ := Aside0.mk (Kd.R_drew HO_8.out)
        have n1_ := Aside0.mk (blk_drew BK279.out)
        have n2_ := Aside0.mk (blk_drew BK280.out)
        have n3_ := Aside0.mk (blk_drew BK291.out)
        have n4_ := Aside0.mk (blk_drew BK299.out)
        have n5_ := Aside0.mk (below_drew1 HB.out)
        clear HO_8
        clear BK279
        clear BK280
        clear BK291
        clear BK299
        clear HB
        have HO_8 := n0_
        have BK279 := n1_
        have BK280 := n2_
        have BK291 := n3_
        have BK299 := n4_
        have HB := n5_
        clear n0_ n1_ n2_ n3_ n4_ n5_
        refine start_ (n := 7) (S := fun w' => w'.cell? ⟨gb291, 0, none⟩ = some (.int .i64 ((rd_T46 ((rd_T44 l0_0 a2).f4) x9_1).f0)) ∧ w'.cell? ⟨gb291, 1, none⟩ = some (.int .i64 ((rd_T46 ((rd_T44 l0_0 a2).f4) x9_1).f1)) ∧ w'.cell? ⟨gb291, 2, none⟩ = some (.int .i64 ((rd_T46 ((rd_T44 l0_0 a2).f4) x9_1).f2)) ∧ w'.cell? ⟨gb291, 3, none⟩ = some (.int .i64 ((rd_T46 ((rd_T44 l0_0 a2).f4) x9_1).f3)) ∧ w'.cell? ⟨gb299, 0, none⟩ = some (.int .i64 t293) ∧ w'.cell? ⟨gb299, 1, none⟩ = some (.int .i64 t294) ∧ w'.cell? ⟨gb299, 2, none⟩ = some (.int .i64 t295) ∧ w'.cell? ⟨gb299, 3, none⟩ = some (.int .i64 t296) ∧ w'.cell? ⟨gb299, 4, none⟩ = some (.int .i64 (wrap64 ((rd l1_0 ((rd_T46 ((rd_T44 l0_0 a2).f4) x9_1).f2)) - (wrap64 ((wrap64 ((rd l1_0 a2) + ((rd_T46 ((rd_T44 l0_0 a2).f4) x9_1).f0))) + 1)))))) (ds := [6]) #[false, false, false, false, false, false, false] (by kernel_rfl) rfl rfl ⟨(blk_cell BK291.out 0).trans rfl, (blk_cell BK291.out 1).trans rfl, (blk_cell BK291.out 2).trans rfl, (blk_cell BK291.out 3).trans rfl, (blk_cell BK299.out 0).trans rfl, (blk_cell BK299.out 1).trans rfl, (blk_cell BK299.out 2).trans rfl, (blk_cell BK299.out 3).trans rfl, (blk_cell BK299.out 4).trans rfl⟩ (fun hHeld => ?_)
        generalize w102.drew = w103 at HO_8 BK279 BK280 BK291 BK299 HB hHeld ⊢
        refine pure_ (i := 0) (N := some 111) (v := ?_) (a' := ?_) #[true, false, false, false, false, false, false] rfl rfl (by kernel_rfl) (fun _ _ _ h => h) (Or.inl ⟨by rfl, ?_⟩) ?_ ?_
        rotate_left
        ·
         intro w'
         go_simp
         with_reducible rfl
        rotate_left
        ·
         simp only [Act.put, List.setIfInBounds_toArray, List.set_cons_zero, List.set_cons_succ, i64_w, i32_w]
         rfl
        refine pure_ (i := 1) (N := some 112) (v := ?_) (a' := ?_) #[true, true, false, false, false, false, false] rfl rfl (by kernel_rfl) (fun _ _ _ h => h) (Or.inl ⟨by rfl, ?_⟩) ?_ ?_
        rotate_left
        ·
         intro w'
         go_simp
         with_reducible rfl
        rotate_left
        ·
         simp only [Act.put, List.setIfInBounds_toArray, List.set_cons_zero, List.set_cons_succ, i64_w, i32_w]
         rfl
        refine take_ (i := 2) (N := some 113) (v := ?_) (a' := ?_) #[true, true, true, false, false, false, false] rfl rfl (by kernel_rfl) (fun _ _ _ h => h) (Or.inl ⟨by rfl, ?_⟩) hHeld ?_ ?_
        rotate_left
        ·
         rintro w' ⟨s0, s1, s2, s3, s4, s5, s6, s7, s8⟩
         go_simp
         with_reducible rfl
        rotate_left
        ·
         simp only [Act.put, List.setIfInBounds_toArray, List.set_cons_zero, List.set_cons_succ, i64_w, i32_w]
         rfl
        refine take_ (i := 3) (N := some 114) (v := ?_) (a' := ?_) #[true, true, true, true, false, false, false] rfl rfl (by kernel_rfl) (fun _ _ _ h => h) (Or.inl ⟨by rfl, ?_⟩) hHeld ?_ ?_
        rotate_left
        ·
         rintro w' ⟨s0, s1, s2, s3, s4, s5, s6, s7, s8⟩
         go_simp
         with_reducible rfl
        rotate_left
        ·
         simp only [Act.put, List.setIfInBounds_toArray, List.set_cons_zero, List.set_cons_succ, i64_w, i32_w]
         rfl
        refine one_ (i := 4) (N := some 115) #[true, true, true, true, true, false, false] rfl rfl (by kernel_rfl) (by decide) (fun K hK => ?_)
        refine goes_ Try.func29 (by kernel_rfl) rfl #[.agg #[.int .i64 t293, .int .i64 t294, .int .i64 t295, .int .i64 t296, .int .i64 (wrap64 ((rd l1_0 ((rd_T46 ((rd_T44 l0_0 a2).f4) x9_1).f2)) - (wrap64 ((wrap64 ((rd l1_0 a2) + ((rd_T46 ((rd_T44 l0_0 a2).f4) x9_1).f0))) + 1))))]] (by rfl) rfl rfl (by (try simp only [List.map_toArray, List.map_cons, List.map_nil]); first | done | rfl | (simp only [List.length_drop, List.length_take]; rfl)) ?_
        with_reducible refine (spliceref02_Put.calls k1 t293 t294 t295 t296 (wrap64 ((rd l1_0 ((rd_T46 ((rd_T44 l0_0 a2).f4) x9_1).f2)) - (wrap64 ((wrap64 ((rd l1_0 a2) + ((rd_T46 ((rd_T44 l0_0 a2).f4) x9_1).f0))) + 1)))) t303 _ A81.out).mono ?_
        rintro e w104 ⟨rfl, hb⟩
        refine ⟨_, rfl, ?_⟩
        have n0_ := Aside0.mk (Kd.R_below (by (with_reducible repeat (first | apply Kd.R_alloc | apply Kd.R_drewN | apply Kd.R_drew)); exact HO_8.out) hb)
        have n1_ := Aside0.mk (blk_below (g := gb279) (o := .cells #[.slice (some ad284) l0_0.length c0_0, .slice A0_1 l0_1.length c0_1, .int .i64 a0_2] 25 (0, 0)) (by (with_reducible repeat (first | refine blk_drewN ?_ _ | refine blk_drew ?_ | refine blk_alloc ?_ _)); exact BK279.out) hb)
        have n2_ := Aside0.mk (blk_below (g := gb280) (o := .cells #[.slice (some ad300) l1_0.length c1_0, .slice A1_1 l1_1.length c1_1, .int .i64 a1_2, .int .i64 a1_3, .int .i64 a1_4] 30 (0, 0)) (by (with_reducible repeat (first | refine blk_drewN ?_ _ | refine blk_drew ?_ | refine blk_alloc ?_ _)); exact BK280.out) hb)
        have n3_ := Aside0.mk (blk_below (g := gb291) (o := .cells #[.int .i64 ((rd_T46 ((rd_T44 l0_0 a2).f4) x9_1).f0), .int .i64 ((rd_T46 ((rd_T44 l0_0 a2).f4) x9_1).f1), .int .i64 ((rd_T46 ((rd_T44 l0_0 a2).f4) x9_1).f2), .int .i64 ((rd_T46 ((rd_T44 l0_0 a2).f4) x9_1).f3)] 46 (0, 0)) (by (with_reducible repeat (first | refine blk_drewN ?_ _ | refine blk_drew ?_ | refine blk_alloc ?_ _)); exact BK291.out) hb)
        have n4_ := Aside0.mk (blk_below (g := gb299) (o := .cells #[.int .i64 t293, .int .i64 t294, .int .i64 t295, .int .i64 t296, .int .i64 (wrap64 ((rd l1_0 ((rd_T46 ((rd_T44 l0_0 a2).f4) x9_1).f2)) - (wrap64 ((wrap64 ((rd l1_0 a2) + ((rd_T46 ((rd_T44 l0_0 a2).f4) x9_1).f0))) + 1))))] 49 (0, 0)) (by (with_reducible repeat (first | refine blk_drewN ?_ _ | refine blk_drew ?_ | refine blk_alloc ?_ _)); exact BK299.out) hb)
        have n5_ := Aside0.mk (below_step (by repeat (first | (with_reducible first | exact HB.out | apply below_alloc | apply pw_below_drewN | apply below_drew1 | refine below_set ?_ GE279.out | refine below_set ?_ GE280.out | refine below_set ?_ GE291.out | refine below_set ?_ GE299.out) | exact HB.out)) hb)
        clear HO_8
        clear BK279
        clear BK280
        clear BK291
        clear BK299
        clear HB
        have HO_8 := n0_
        have BK279 := n1_
        have BK280 := n2_
        have BK291 := n3_
        have BK299 := n4_
        have HB := n5_
        clear n0_ n1_ n2_ n3_ n4_ n5_
        (try clear hb)
        (try clear hb2)
        (try clear hk)
        (try clear hi)
        have p82 : 0 ≤ (((rd_T46 ((rd_T44 l0_0 a2).f4) x9_1).f0) : Int) := of_decide_eq_true (by first | (with_reducible assumption) | assumption)
        have q82 : (((rd_T46 ((rd_T44 l0_0 a2).f4) x9_1).f0) : Int) < ((x8_1.length : Int) : Int) := of_decide_eq_true (by first | (with_reducible assumption) | assumption)
        obtain ⟨go82, co82, eo82, gb82, gl82, cl82, HG82⟩ := Kd.R_form HO_8.out (by omega)
        (first | cases eo82 | (injection eo82 with ea_ en_ ec_; (first | subst ea_ | (injection ea_ with ea_; subst ea_)); subst ec_; clear en_))
        have GB82 := Aside0.mk gb82
        have GG82 := Aside0.mk HG82
        clear gb82 gl82 HG82
        (first | simp only [add_plain] at hx292_0 | skip)
        obtain ⟨hx82_0, hf82_0⟩ := Kd.R_celln 0 HO_8.out (((rd_T46 ((rd_T44 l0_0 a2).f4) x9_1).f0) : Int) p82 q82
        replace p82 := eq_true p82
        replace q82 := eq_true q82
        have HP105 := Kd.R_putn HO_8.out (((rd_T46 ((rd_T44 l0_0 a2).f4) x9_1).f0) : Int) t303
        rw [← Ny304.out] at HP105
        have HQ105 := Aside0.mk HP105
        clear HP105
        refine hK.out _ _ ⟨(blk_cell BK291.out 0).trans rfl, (blk_cell BK291.out 1).trans rfl, (blk_cell BK291.out 2).trans rfl, (blk_cell BK291.out 3).trans rfl, (blk_cell BK299.out 0).trans rfl, (blk_cell BK299.out 1).trans rfl, (blk_cell BK299.out 2).trans rfl, (blk_cell BK299.out 3).trans rfl, (blk_cell BK299.out 4).trans rfl⟩ (fun hHeld => ?_)
        clear hK K
        refine norm_ (a' := ?_) ?_ ?_
        rotate_left
        ·
         show Act.put _ (some 115) _ = _
         simp only [Act.put, List.setIfInBounds_toArray, List.set_cons_zero, List.set_cons_succ, i64_w, i32_w]
         rfl
        refine pure_ (i := 5) (N := some 116) (v := ?_) (a' := ?_) #[true, true, true, true, true, true, false] rfl rfl (by kernel_rfl) (fun _ _ _ h => h) (Or.inl ⟨by rfl, ?_⟩) ?_ ?_
        rotate_left
        ·
         intro w'
         go_simp
         with_reducible rfl
        rotate_left
        ·
         simp only [Act.put, List.setIfInBounds_toArray, List.set_cons_zero, List.set_cons_succ, i64_w, i32_w]
         rfl
        refine last_ (i := 6) (N := none) #[true, true, true, true, true, true, true] rfl rfl (by kernel_rfl) (by decide) (fun K hK => ?_)
        refine skip_ (w1 := ?_) (by rfl) rfl ?_ ?_
        rotate_left
        ·
         go_simp
         rfl
        refine hK.out _ _ ?_
        clear hK K
        refine done_ (by kernel_rfl) ?_
        try go_wp2
        go_roundg k1
        case measure => have := HK1.out; omega
        case rel => exact ⟨(y304), (wrap64 (x9_1 + 1)), (by first | rfl | (simp; done) | (simp [*]; done)), H', ⟨by have := HK1.out; omega⟩, ⟨by (with_reducible repeat (first | apply Kd.R_alloc | apply Kd.R_drewN | apply Kd.R_drew)); exact HQ105.out⟩, ⟨by (with_reducible repeat (first | refine blk_drewN ?_ _ | refine blk_drew ?_ | refine blk_alloc ?_ _)); refine blk_far ?_ (by have h_ := Kd.R_ne HO_8.out BK279.out (by decide); intro e_; exact h_ (by rw [e_]; rfl)) _; (with_reducible repeat (first | refine blk_drewN ?_ _ | refine blk_drew ?_ | refine blk_alloc ?_ _)); exact BK279.out⟩, ⟨by (with_reducible repeat (first | refine blk_drewN ?_ _ | refine blk_drew ?_ | refine blk_alloc ?_ _)); refine blk_far ?_ (by have h_ := Kd.R_ne HO_8.out BK280.out (by decide); intro e_; exact h_ (by rw [e_]; rfl)) _; (with_reducible repeat (first | refine blk_drewN ?_ _ | refine blk_drew ?_ | refine blk_alloc ?_ _)); exact BK280.out⟩, ⟨by repeat (first | (with_reducible first | exact HB.out | apply below_alloc | apply pw_below_drewN | apply below_drew1 | refine below_set ?_ GB82.out | refine below_set ?_ GE279.out | refine below_set ?_ GE280.out | refine below_set ?_ GE291.out | refine below_set ?_ GE299.out) | exact HB.out)⟩⟩
    ·
     rw [if_neg c21] at H
     have c21b0 : (((rd_T46 ((rd_T44 l0_0 a2).f4) x9_1).f1) == 1) = false := beq_eq_false_iff_ne.mpr c21
     have c21b1 : (((rd_T46 ((rd_T44 l0_0 a2).f4) x9_1).f1) != 1) = true := bne_iff_ne.mpr c21
     by_cases c106 : 0 ≤ ((rd_T46 ((rd_T44 l0_0 a2).f4) x9_1).f2)
     case neg =>
      rw [if_neg c106] at H
      exact absurd H (by simp)
     rw [if_pos c106] at H
     have c106b0 : decide (0 ≤ ((rd_T46 ((rd_T44 l0_0 a2).f4) x9_1).f2)) = true := decide_eq_true c106
     clear c106
     by_cases c107 : ((rd_T46 ((rd_T44 l0_0 a2).f4) x9_1).f2) < (l1_1.length : Int)
     case neg =>
      rw [if_neg c107] at H
      exact absurd H (by simp)
     rw [if_pos c107] at H
     have c107b0 : decide (((rd_T46 ((rd_T44 l0_0 a2).f4) x9_1).f2) < (l1_1.length : Int)) = true := decide_eq_true c107
     clear c107
     have HC108 := Aside0.mk H
     clear H
     have hnb109 := NB279_280.out
     have hnc109 := NB280_279.out
     obtain ⟨hcz110_0, hcz110_1, hcz110_2⟩ := blkc40_3 BK279.out
     obtain ⟨hfz110_0, hfz110_1, hfz110_2⟩ := blkf40_3 BK279.out
     have p288 : 0 ≤ (a2 : Int) := of_decide_eq_true (by first | (with_reducible assumption) | assumption)
     have q288 : a2 < (l0_0.length : Int) := of_decide_eq_true (by first | (with_reducible assumption) | assumption)
     obtain ⟨ad288, A288_3, c288_3, A288_4, c288_4, e288, hx288_0, hx288_1, hx288_2, hx288_3, hx288_4, hl288_3, hi288_3, hl288_4, hi288_4⟩ := at_T44 HR0_0.out a2 p288 q288
     obtain rfl : ad284 = ad288 := (by injection e288)
     replace hx288_0 := (HB.out.cell (World.block_lt_of_cell? w _ hx288_0)).trans hx288_0
     replace hx288_1 := (HB.out.cell (World.block_lt_of_cell? w _ hx288_1)).trans hx288_1
     replace hx288_2 := (HB.out.cell (World.block_lt_of_cell? w _ hx288_2)).trans hx288_2
     replace hx288_3 := (HB.out.cell (World.block_lt_of_cell? w _ hx288_3)).trans hx288_3
     replace hx288_4 := (HB.out.cell (World.block_lt_of_cell? w _ hx288_4)).trans hx288_4
     have HR288_3 := Aside0.mk hi288_3
     have HC288_3 := Aside0.mk hl288_3
     clear hi288_3 hl288_3
     have HR288_4 := Aside0.mk hi288_4
     have HC288_4 := Aside0.mk hl288_4
     clear hi288_4 hl288_4
     replace p288 := eq_true p288
     replace q288 := eq_true q288
     have p289 : 0 ≤ (a2 : Int) := of_decide_eq_true (by first | (with_reducible assumption) | assumption)
     have q289 : a2 < (l0_0.length : Int) := of_decide_eq_true (by first | (with_reducible assumption) | assumption)
     obtain ⟨ad289, A289_3, c289_3, A289_4, c289_4, e289, hx289_0, hx289_1, hx289_2, hx289_3, hx289_4, hl289_3, hi289_3, hl289_4, hi289_4⟩ := at_T44 HR0_0.out a2 p289 q289
     obtain rfl : ad284 = ad289 := (by injection e289)
     replace hx289_0 := (HB.out.cell (World.block_lt_of_cell? w _ hx289_0)).trans hx289_0
     replace hx289_1 := (HB.out.cell (World.block_lt_of_cell? w _ hx289_1)).trans hx289_1
     replace hx289_2 := (HB.out.cell (World.block_lt_of_cell? w _ hx289_2)).trans hx289_2
     replace hx289_3 := (HB.out.cell (World.block_lt_of_cell? w _ hx289_3)).trans hx289_3
     replace hx289_4 := (HB.out.cell (World.block_lt_of_cell? w _ hx289_4)).trans hx289_4
     have HR289_3 := Aside0.mk hi289_3
     have HC289_3 := Aside0.mk hl289_3
     clear hi289_3 hl289_3
     have HR289_4 := Aside0.mk hi289_4
     have HC289_4 := Aside0.mk hl289_4
     clear hi289_4 hl289_4
     replace p289 := eq_true p289
     replace q289 := eq_true q289
     have ea_ := Option.some.inj (hx288_3.symm.trans hx289_3)
     injection ea_ with ea_ en_ ec_
     subst ea_
     subst ec_
     clear en_
     have ea_ := Option.some.inj (hx288_4.symm.trans hx289_4)
     injection ea_ with ea_ en_ ec_
     subst ea_
     subst ec_
     clear en_
     have p290 : 0 ≤ (x9_1 : Int) := of_decide_eq_true (by first | (with_reducible assumption) | assumption)
     have q290 : x9_1 < (((rd_T44 l0_0 a2).f4).length : Int) := of_decide_eq_true (by first | (with_reducible assumption) | assumption)
     obtain ⟨ad290, e290, hx290_0, hx290_1, hx290_2, hx290_3⟩ := at_T46 HR289_4.out x9_1 p290 q290
     cases e290
     replace hx290_0 := (HB.out.cell (World.block_lt_of_cell? w _ hx290_0)).trans hx290_0
     replace hx290_1 := (HB.out.cell (World.block_lt_of_cell? w _ hx290_1)).trans hx290_1
     replace hx290_2 := (HB.out.cell (World.block_lt_of_cell? w _ hx290_2)).trans hx290_2
     replace hx290_3 := (HB.out.cell (World.block_lt_of_cell? w _ hx290_3)).trans hx290_3
     replace p290 := eq_true p290
     replace q290 := eq_true q290
     try go_wp2_with (first | ((with_reducible refine gate_dst (N := 10) rfl ?_); refine box_event ?hg (N := 10) ?hd (cs := #[.int .i64 0, .int .i64 0, .int .i64 0, .int .i64 0]) (t := 46) ?hr ?_; (case hd => rfl); (case hg => rfl); (case hr => first | (go_simp; done) | (go_simp; rfl)); intro gb291 hg w111 hbox hb; have n0_ := Aside0.mk (Kd.R_below (by (with_reducible repeat (first | apply Kd.R_alloc | apply Kd.R_drewN | apply Kd.R_drew)); exact HO_8.out) hb); have n1_ := Aside0.mk (blk_below (g := gb279) (o := .cells #[.slice (some ad284) l0_0.length c0_0, .slice A0_1 l0_1.length c0_1, .int .i64 a0_2] 25 (0, 0)) (by (with_reducible repeat (first | refine blk_drewN ?_ _ | refine blk_drew ?_ | refine blk_alloc ?_ _)); exact BK279.out) hb); have n2_ := Aside0.mk (blk_below (g := gb280) (o := .cells #[.slice A1_0 l1_0.length c1_0, .slice A1_1 l1_1.length c1_1, .int .i64 a1_2, .int .i64 a1_3, .int .i64 a1_4] 30 (0, 0)) (by (with_reducible repeat (first | refine blk_drewN ?_ _ | refine blk_drew ?_ | refine blk_alloc ?_ _)); exact BK280.out) hb); have n3_ := Aside0.mk (below_step (by repeat (first | (with_reducible first | exact HB.out | apply below_alloc | apply pw_below_drewN | apply below_drew1 | refine below_set ?_ GE279.out | refine below_set ?_ GE280.out) | exact HB.out)) hb); have n4_ := Aside0.mk (hbox); have n5_ := Aside0.mk ((by rw [hg]; exact (below_size (by repeat (first | (with_reducible first | exact HB.out | apply below_alloc | apply pw_below_drewN | apply below_drew1 | refine below_set ?_ GE279.out | refine below_set ?_ GE280.out) | exact HB.out))) : w.heap.size ≤ gb291)); have n6_ := Aside0.mk ((by rw [hg]; exact (below_size (by repeat (first | (with_reducible first | exact HB.out | apply below_alloc | apply pw_below_drewN | apply below_drew1 | refine below_set ?_ GE279.out | refine below_set ?_ GE280.out) | exact HB.out))) : w.heap.size ≤ gb291)); have n7_ := Aside0.mk ((by rw [hg]; exact Nat.ne_of_lt (blk_lt (g := gb279) (o := .cells #[.slice (some ad284) l0_0.length c0_0, .slice A0_1 l0_1.length c0_1, .int .i64 a0_2] 25 (0, 0)) (by (with_reducible repeat (first | refine blk_drewN ?_ _ | refine blk_drew ?_ | refine blk_alloc ?_ _)); exact BK279.out)) : gb279 ≠ gb291)); have n8_ := Aside0.mk ((by rw [hg]; exact Nat.ne_of_gt (blk_lt (g := gb279) (o := .cells #[.slice (some ad284) l0_0.length c0_0, .slice A0_1 l0_1.length c0_1, .int .i64 a0_2] 25 (0, 0)) (by (with_reducible repeat (first | refine blk_drewN ?_ _ | refine blk_drew ?_ | refine blk_alloc ?_ _)); exact BK279.out)) : gb291 ≠ gb279)); have n9_ := Aside0.mk ((by rw [hg]; exact Nat.ne_of_lt (blk_lt (g := gb280) (o := .cells #[.slice A1_0 l1_0.length c1_0, .slice A1_1 l1_1.length c1_1, .int .i64 a1_2, .int .i64 a1_3, .int .i64 a1_4] 30 (0, 0)) (by (with_reducible repeat (first | refine blk_drewN ?_ _ | refine blk_drew ?_ | refine blk_alloc ?_ _)); exact BK280.out)) : gb280 ≠ gb291)); have n10_ := Aside0.mk ((by rw [hg]; exact Nat.ne_of_gt (blk_lt (g := gb280) (o := .cells #[.slice A1_0 l1_0.length c1_0, .slice A1_1 l1_1.length c1_1, .int .i64 a1_2, .int .i64 a1_3, .int .i64 a1_4] 30 (0, 0)) (by (with_reducible repeat (first | refine blk_drewN ?_ _ | refine blk_drew ?_ | refine blk_alloc ?_ _)); exact BK280.out)) : gb291 ≠ gb280)); clear HO_8; clear BK279; clear BK280; clear HB; have HO_8 := n0_; have BK279 := n1_; have BK280 := n2_; have HB := n3_; have BK291 := n4_; have GW291 := n5_; have GE291 := n6_; have NB279_291 := n7_; have NB291_279 := n8_; have NB280_291 := n9_; have NB291_280 := n10_; clear n0_ n1_ n2_ n3_ n4_ n5_ n6_ n7_ n8_ n9_ n10_; clear hb hbox hg; have hnb112 := NB291_279.out; have hnc112 := NB279_291.out; have hnb113 := NB291_280.out; have hnc113 := NB280_291.out; obtain ⟨hcz114_0, hcz114_1, hcz114_2, hcz114_3⟩ := blkc40_4 BK291.out; obtain ⟨hfz114_0, hfz114_1, hfz114_2, hfz114_3⟩ := blkf40_4 BK291.out; obtain ⟨Ao115, co115, eo115⟩ := Kd.R_slice HO_8.out; subst eo115; have p292 : 0 ≤ (((rd_T46 ((rd_T44 l0_0 a2).f4) x9_1).f0) : Int) := of_decide_eq_true (by first | (with_reducible assumption) | assumption); have q292 : ((rd_T46 ((rd_T44 l0_0 a2).f4) x9_1).f0) < (x8_1.length : Int) := of_decide_eq_true (by first | (with_reducible assumption) | assumption); obtain ⟨ad292, e292, hx292_0⟩ := Kd.at_int (Kd.R_reads' HO_8.out).2.2 ((rd_T46 ((rd_T44 l0_0 a2).f4) x9_1).f0) p292 q292; cases e292; have hn292_0 : ad292.block ≠ gb291 := Kd.own_blk (Kd.R_ne HO_8.out BK291.out (by decide)); have hn292_1 : ad292.block ≠ gb291 := Kd.own_blk (Kd.R_ne HO_8.out BK291.out (by decide)); have hn292_2 : ad292.block ≠ gb291 := Kd.own_blk (Kd.R_ne HO_8.out BK291.out (by decide)); have hn292_3 : ad292.block ≠ gb291 := Kd.own_blk (Kd.R_ne HO_8.out BK291.out (by decide)); replace hx292_0 := (cell_far (p := ⟨gb291, 0, none⟩) (by first | (rw [add_block]; exact hn292_0) | (show (Addr.add _ _).block ≠ _; rw [add_block]; exact hn292_0) | exact hn292_0) (.int .i64 ((rd_T46 ((rd_T44 l0_0 a2).f4) x9_1).f0))).trans hx292_0; replace hx292_0 := (cell_far (p := ⟨gb291, 1, none⟩) (by first | (rw [add_block]; exact hn292_1) | (show (Addr.add _ _).block ≠ _; rw [add_block]; exact hn292_1) | exact hn292_1) (.int .i64 ((rd_T46 ((rd_T44 l0_0 a2).f4) x9_1).f1))).trans hx292_0; replace hx292_0 := (cell_far (p := ⟨gb291, 2, none⟩) (by first | (rw [add_block]; exact hn292_2) | (show (Addr.add _ _).block ≠ _; rw [add_block]; exact hn292_2) | exact hn292_2) (.int .i64 ((rd_T46 ((rd_T44 l0_0 a2).f4) x9_1).f2))).trans hx292_0; replace hx292_0 := (cell_far (p := ⟨gb291, 3, none⟩) (by first | (rw [add_block]; exact hn292_3) | (show (Addr.add _ _).block ≠ _; rw [add_block]; exact hn292_3) | exact hn292_3) (.int .i64 ((rd_T46 ((rd_T44 l0_0 a2).f4) x9_1).f3))).trans hx292_0; clear hn292_0; clear hn292_1; clear hn292_2; clear hn292_3; replace p292 := eq_true p292; replace q292 := eq_true q292) | ((with_reducible refine gate_callee (f := 17) rfl ?_); refine goesL_ (some 48) rfl rfl Try.func17 (by kernel_rfl) rfl #[.int .u32 (rd x8_1 ((rd_T46 ((rd_T44 l0_0 a2).f4) x9_1).f0))] rfl (by (try simp only [List.map_toArray, List.map_cons, List.map_nil]); first | done | rfl | (simp only [List.length_drop, List.length_take]; rfl)) ?_; (with_reducible refine (spliceref02_Get.calls (rd x8_1 ((rd_T46 ((rd_T44 l0_0 a2).f4) x9_1).f0)) t293 t294 t295 t296 t297 t298 _ A20.out).mono ?_); rintro e w116 ⟨rfl, hb⟩; refine ⟨_, rfl, ?_⟩; have n0_ := Aside0.mk (Kd.R_below (by (with_reducible repeat (first | apply Kd.R_alloc | apply Kd.R_drewN | apply Kd.R_drew)); exact (Kd.R_mono (Kd.R_far (p := ⟨gb291, 3, none⟩) (Kd.R_far (p := ⟨gb291, 2, none⟩) (Kd.R_far (p := ⟨gb291, 1, none⟩) (Kd.R_far (p := ⟨gb291, 0, none⟩) (Kd.R_types HO_8.out BK291.out (by decide)) (fun _ hk => hk.2) (.int .i64 ((rd_T46 ((rd_T44 l0_0 a2).f4) x9_1).f0))) (fun _ hk => hk.2) (.int .i64 ((rd_T46 ((rd_T44 l0_0 a2).f4) x9_1).f1))) (fun _ hk => hk.2) (.int .i64 ((rd_T46 ((rd_T44 l0_0 a2).f4) x9_1).f2))) (fun _ hk => hk.2) (.int .i64 ((rd_T46 ((rd_T44 l0_0 a2).f4) x9_1).f3))) (fun _ h_ => h_.1))) hb); have n1_ := Aside0.mk (blk_below (g := gb279) (o := .cells #[.slice (some ad284) l0_0.length c0_0, .slice A0_1 l0_1.length c0_1, .int .i64 a0_2] 25 (0, 0)) (by (with_reducible repeat (first | refine blk_drewN ?_ _ | refine blk_drew ?_ | refine blk_alloc ?_ _)); refine blk_far ?_ NB279_291.out _; (with_reducible repeat (first | refine blk_drewN ?_ _ | refine blk_drew ?_ | refine blk_alloc ?_ _)); refine blk_far ?_ NB279_291.out _; (with_reducible repeat (first | refine blk_drewN ?_ _ | refine blk_drew ?_ | refine blk_alloc ?_ _)); refine blk_far ?_ NB279_291.out _; (with_reducible repeat (first | refine blk_drewN ?_ _ | refine blk_drew ?_ | refine blk_alloc ?_ _)); refine blk_far ?_ NB279_291.out _; (with_reducible repeat (first | refine blk_drewN ?_ _ | refine blk_drew ?_ | refine blk_alloc ?_ _)); exact BK279.out) hb); have n2_ := Aside0.mk (blk_below (g := gb280) (o := .cells #[.slice A1_0 l1_0.length c1_0, .slice A1_1 l1_1.length c1_1, .int .i64 a1_2, .int .i64 a1_3, .int .i64 a1_4] 30 (0, 0)) (by (with_reducible repeat (first | refine blk_drewN ?_ _ | refine blk_drew ?_ | refine blk_alloc ?_ _)); refine blk_far ?_ NB280_291.out _; (with_reducible repeat (first | refine blk_drewN ?_ _ | refine blk_drew ?_ | refine blk_alloc ?_ _)); refine blk_far ?_ NB280_291.out _; (with_reducible repeat (first | refine blk_drewN ?_ _ | refine blk_drew ?_ | refine blk_alloc ?_ _)); refine blk_far ?_ NB280_291.out _; (with_reducible repeat (first | refine blk_drewN ?_ _ | refine blk_drew ?_ | refine blk_alloc ?_ _)); refine blk_far ?_ NB280_291.out _; (with_reducible repeat (first | refine blk_drewN ?_ _ | refine blk_drew ?_ | refine blk_alloc ?_ _)); exact BK280.out) hb); have n3_ := Aside0.mk (blk_below (g := gb291) (o := .cells #[.int .i64 ((rd_T46 ((rd_T44 l0_0 a2).f4) x9_1).f0), .int .i64 ((rd_T46 ((rd_T44 l0_0 a2).f4) x9_1).f1), .int .i64 ((rd_T46 ((rd_T44 l0_0 a2).f4) x9_1).f2), .int .i64 ((rd_T46 ((rd_T44 l0_0 a2).f4) x9_1).f3)] 46 (0, 0)) (by (with_reducible repeat (first | refine blk_drewN ?_ _ | refine blk_drew ?_ | refine blk_alloc ?_ _)); refine blk_put (cs := #[.int .i64 ((rd_T46 ((rd_T44 l0_0 a2).f4) x9_1).f0), .int .i64 ((rd_T46 ((rd_T44 l0_0 a2).f4) x9_1).f1), .int .i64 ((rd_T46 ((rd_T44 l0_0 a2).f4) x9_1).f2), .int .i64 0]) ?_ 3 _ rfl; (with_reducible repeat (first | refine blk_drewN ?_ _ | refine blk_drew ?_ | refine blk_alloc ?_ _)); refine blk_put (cs := #[.int .i64 ((rd_T46 ((rd_T44 l0_0 a2).f4) x9_1).f0), .int .i64 ((rd_T46 ((rd_T44 l0_0 a2).f4) x9_1).f1), .int .i64 0, .int .i64 0]) ?_ 2 _ rfl; (with_reducible repeat (first | refine blk_drewN ?_ _ | refine blk_drew ?_ | refine blk_alloc ?_ _)); refine blk_put (cs := #[.int .i64 ((rd_T46 ((rd_T44 l0_0 a2).f4) x9_1).f0), .int .i64 0, .int .i64 0, .int .i64 0]) ?_ 1 _ rfl; (with_reducible repeat (first | refine blk_drewN ?_ _ | refine blk_drew ?_ | refine blk_alloc ?_ _)); refine blk_put (cs := #[.int .i64 0, .int .i64 0, .int .i64 0, .int .i64 0]) ?_ 0 _ rfl; (with_reducible repeat (first | refine blk_drewN ?_ _ | refine blk_drew ?_ | refine blk_alloc ?_ _)); exact BK291.out) hb); have n4_ := Aside0.mk (below_step (by repeat (first | (with_reducible first | exact HB.out | apply below_alloc | apply pw_below_drewN | apply below_drew1 | refine below_set ?_ GE279.out | refine below_set ?_ GE280.out | refine below_set ?_ GE291.out) | exact HB.out)) hb); clear HO_8; clear BK279; clear BK280; clear BK291; clear HB; have HO_8 := n0_; have BK279 := n1_; have BK280 := n2_; have BK291 := n3_; have HB := n4_; clear n0_ n1_ n2_ n3_ n4_; (try clear hb); (try clear hb2); (try clear hk); (try clear hi)) | ((with_reducible refine gate_dst (N := 11) rfl ?_); refine box_event ?hg (N := 11) ?hd (cs := #[.int .i64 0, .int .i64 0, .int .i64 0, .int .i64 0, .int .i64 0]) (t := 49) ?hr ?_; (case hd => rfl); (case hg => rfl); (case hr => first | (go_simp; done) | (go_simp; rfl)); intro gb299 hg w117 hbox hb; have n0_ := Aside0.mk (Kd.R_below (by (with_reducible repeat (first | apply Kd.R_alloc | apply Kd.R_drewN | apply Kd.R_drew)); exact HO_8.out) hb); have n1_ := Aside0.mk (blk_below (g := gb279) (o := .cells #[.slice (some ad284) l0_0.length c0_0, .slice A0_1 l0_1.length c0_1, .int .i64 a0_2] 25 (0, 0)) (by (with_reducible repeat (first | refine blk_drewN ?_ _ | refine blk_drew ?_ | refine blk_alloc ?_ _)); exact BK279.out) hb); have n2_ := Aside0.mk (blk_below (g := gb280) (o := .cells #[.slice A1_0 l1_0.length c1_0, .slice A1_1 l1_1.length c1_1, .int .i64 a1_2, .int .i64 a1_3, .int .i64 a1_4] 30 (0, 0)) (by (with_reducible repeat (first | refine blk_drewN ?_ _ | refine blk_drew ?_ | refine blk_alloc ?_ _)); exact BK280.out) hb); have n3_ := Aside0.mk (blk_below (g := gb291) (o := .cells #[.int .i64 ((rd_T46 ((rd_T44 l0_0 a2).f4) x9_1).f0), .int .i64 ((rd_T46 ((rd_T44 l0_0 a2).f4) x9_1).f1), .int .i64 ((rd_T46 ((rd_T44 l0_0 a2).f4) x9_1).f2), .int .i64 ((rd_T46 ((rd_T44 l0_0 a2).f4) x9_1).f3)] 46 (0, 0)) (by (with_reducible repeat (first | refine blk_drewN ?_ _ | refine blk_drew ?_ | refine blk_alloc ?_ _)); exact BK291.out) hb); have n4_ := Aside0.mk (below_step (by repeat (first | (with_reducible first | exact HB.out | apply below_alloc | apply pw_below_drewN | apply below_drew1 | refine below_set ?_ GE279.out | refine below_set ?_ GE280.out | refine below_set ?_ GE291.out) | exact HB.out)) hb); have n5_ := Aside0.mk (hbox); have n6_ := Aside0.mk ((by rw [hg]; exact (below_size (by repeat (first | (with_reducible first | exact HB.out | apply below_alloc | apply pw_below_drewN | apply below_drew1 | refine below_set ?_ GE279.out | refine below_set ?_ GE280.out | refine below_set ?_ GE291.out) | exact HB.out))) : w.heap.size ≤ gb299)); have n7_ := Aside0.mk ((by rw [hg]; exact (below_size (by repeat (first | (with_reducible first | exact HB.out | apply below_alloc | apply pw_below_drewN | apply below_drew1 | refine below_set ?_ GE279.out | refine below_set ?_ GE280.out | refine below_set ?_ GE291.out) | exact HB.out))) : w.heap.size ≤ gb299)); have n8_ := Aside0.mk ((by rw [hg]; exact Nat.ne_of_lt (blk_lt (g := gb279) (o := .cells #[.slice (some ad284) l0_0.length c0_0, .slice A0_1 l0_1.length c0_1, .int .i64 a0_2] 25 (0, 0)) (by (with_reducible repeat (first | refine blk_drewN ?_ _ | refine blk_drew ?_ | refine blk_alloc ?_ _)); exact BK279.out)) : gb279 ≠ gb299)); have n9_ := Aside0.mk ((by rw [hg]; exact Nat.ne_of_gt (blk_lt (g := gb279) (o := .cells #[.slice (some ad284) l0_0.length c0_0, .slice A0_1 l0_1.length c0_1, .int .i64 a0_2] 25 (0, 0)) (by (with_reducible repeat (first | refine blk_drewN ?_ _ | refine blk_drew ?_ | refine blk_alloc ?_ _)); exact BK279.out)) : gb299 ≠ gb279)); have n10_ := Aside0.mk ((by rw [hg]; exact Nat.ne_of_lt (blk_lt (g := gb280) (o := .cells #[.slice A1_0 l1_0.length c1_0, .slice A1_1 l1_1.length c1_1, .int .i64 a1_2, .int .i64 a1_3, .int .i64 a1_4] 30 (0, 0)) (by (with_reducible repeat (first | refine blk_drewN ?_ _ | refine blk_drew ?_ | refine blk_alloc ?_ _)); exact BK280.out)) : gb280 ≠ gb299)); have n11_ := Aside0.mk ((by rw [hg]; exact Nat.ne_of_gt (blk_lt (g := gb280) (o := .cells #[.slice A1_0 l1_0.length c1_0, .slice A1_1 l1_1.length c1_1, .int .i64 a1_2, .int .i64 a1_3, .int .i64 a1_4] 30 (0, 0)) (by (with_reducible repeat (first | refine blk_drewN ?_ _ | refine blk_drew ?_ | refine blk_alloc ?_ _)); exact BK280.out)) : gb299 ≠ gb280)); have n12_ := Aside0.mk ((by rw [hg]; exact Nat.ne_of_lt (blk_lt (g := gb291) (o := .cells #[.int .i64 ((rd_T46 ((rd_T44 l0_0 a2).f4) x9_1).f0), .int .i64 ((rd_T46 ((rd_T44 l0_0 a2).f4) x9_1).f1), .int .i64 ((rd_T46 ((rd_T44 l0_0 a2).f4) x9_1).f2), .int .i64 ((rd_T46 ((rd_T44 l0_0 a2).f4) x9_1).f3)] 46 (0, 0)) (by (with_reducible repeat (first | refine blk_drewN ?_ _ | refine blk_drew ?_ | refine blk_alloc ?_ _)); exact BK291.out)) : gb291 ≠ gb299)); have n13_ := Aside0.mk ((by rw [hg]; exact Nat.ne_of_gt (blk_lt (g := gb291) (o := .cells #[.int .i64 ((rd_T46 ((rd_T44 l0_0 a2).f4) x9_1).f0), .int .i64 ((rd_T46 ((rd_T44 l0_0 a2).f4) x9_1).f1), .int .i64 ((rd_T46 ((rd_T44 l0_0 a2).f4) x9_1).f2), .int .i64 ((rd_T46 ((rd_T44 l0_0 a2).f4) x9_1).f3)] 46 (0, 0)) (by (with_reducible repeat (first | refine blk_drewN ?_ _ | refine blk_drew ?_ | refine blk_alloc ?_ _)); exact BK291.out)) : gb299 ≠ gb291)); clear HO_8; clear BK279; clear BK280; clear BK291; clear HB; have HO_8 := n0_; have BK279 := n1_; have BK280 := n2_; have BK291 := n3_; have HB := n4_; have BK299 := n5_; have GW299 := n6_; have GE299 := n7_; have NB279_299 := n8_; have NB299_279 := n9_; have NB280_299 := n10_; have NB299_280 := n11_; have NB291_299 := n12_; have NB299_291 := n13_; clear n0_ n1_ n2_ n3_ n4_ n5_ n6_ n7_ n8_ n9_ n10_ n11_ n12_ n13_; clear hb hbox hg; have hnb118 := NB299_279.out; have hnc118 := NB279_299.out; have hnb119 := NB299_280.out; have hnc119 := NB280_299.out; have hnb120 := NB299_291.out; have hnc120 := NB291_299.out; obtain ⟨hcz121_0, hcz121_1, hcz121_2, hcz121_3, hcz121_4⟩ := blkc40_5 BK299.out; obtain ⟨hfz121_0, hfz121_1, hfz121_2, hfz121_3, hfz121_4⟩ := blkf40_5 BK299.out; have hcz122_0 : w117.cell? ⟨gb291, 0, none⟩ = some (.int .i64 ((rd_T46 ((rd_T44 l0_0 a2).f4) x9_1).f0)) := (blk_cell BK291.out 0).trans rfl; have hcz122_1 : w117.cell? ⟨gb291, 1, none⟩ = some (.int .i64 ((rd_T46 ((rd_T44 l0_0 a2).f4) x9_1).f1)) := (blk_cell BK291.out 1).trans rfl; have hcz122_2 : w117.cell? ⟨gb291, 2, none⟩ = some (.int .i64 ((rd_T46 ((rd_T44 l0_0 a2).f4) x9_1).f2)) := (blk_cell BK291.out 2).trans rfl; have hcz122_3 : w117.cell? ⟨gb291, 3, none⟩ = some (.int .i64 ((rd_T46 ((rd_T44 l0_0 a2).f4) x9_1).f3)) := (blk_cell BK291.out 3).trans rfl; obtain ⟨hfz122_0, hfz122_1, hfz122_2, hfz122_3⟩ := blkf40_4 BK291.out))
     obtain ⟨w123, hw123_⟩ : ∃ w_ : World, w_ = (((((w117.setCell ⟨gb299, 0, none⟩ (.int .i64 t293)).setCell ⟨gb299, 1, none⟩ (.int .i64 t294)).setCell ⟨gb299, 2, none⟩ (.int .i64 t295)).setCell ⟨gb299, 3, none⟩ (.int .i64 t296)).setCell ⟨gb299, 4, none⟩ (.int .i64 t297)) := ⟨_, rfl⟩
     have n0_ : Aside0 (Kd.R (Kd.int .u32) 47 w123 w.heap.size (fun _ => True) (.slice (some ad292) x8_1.length co115) x8_1) := ⟨by rw [hw123_]; (with_reducible repeat (first | apply Kd.R_alloc | apply Kd.R_drewN | apply Kd.R_drew)); exact Kd.R_mono (Kd.R_far (p := ⟨gb299, 4, none⟩) (Kd.R_far (p := ⟨gb299, 3, none⟩) (Kd.R_far (p := ⟨gb299, 2, none⟩) (Kd.R_far (p := ⟨gb299, 1, none⟩) (Kd.R_far (p := ⟨gb299, 0, none⟩) (Kd.R_types HO_8.out BK299.out (by decide)) (fun _ hk => hk.2) (.int .i64 t293)) (fun _ hk => hk.2) (.int .i64 t294)) (fun _ hk => hk.2) (.int .i64 t295)) (fun _ hk => hk.2) (.int .i64 t296)) (fun _ hk => hk.2) (.int .i64 t297)) (fun _ hk => trivial)⟩
     have n1_ : Aside0 (w123.heap[gb279]? = some (.cells #[.slice (some ad284) l0_0.length c0_0, .slice A0_1 l0_1.length c0_1, .int .i64 a0_2] 25 (0, 0))) := ⟨by rw [hw123_]; (with_reducible repeat (first | refine blk_drewN ?_ _ | refine blk_drew ?_ | refine blk_alloc ?_ _)); refine blk_far ?_ NB279_299.out _; (with_reducible repeat (first | refine blk_drewN ?_ _ | refine blk_drew ?_ | refine blk_alloc ?_ _)); refine blk_far ?_ NB279_299.out _; (with_reducible repeat (first | refine blk_drewN ?_ _ | refine blk_drew ?_ | refine blk_alloc ?_ _)); refine blk_far ?_ NB279_299.out _; (with_reducible repeat (first | refine blk_drewN ?_ _ | refine blk_drew ?_ | refine blk_alloc ?_ _)); refine blk_far ?_ NB279_299.out _; (with_reducible repeat (first | refine blk_drewN ?_ _ | refine blk_drew ?_ | refine blk_alloc ?_ _)); refine blk_far ?_ NB279_299.out _; (with_reducible repeat (first | refine blk_drewN ?_ _ | refine blk_drew ?_ | refine blk_alloc ?_ _)); exact BK279.out⟩
     have n2_ : Aside0 (w123.heap[gb280]? = some (.cells #[.slice A1_0 l1_0.length c1_0, .slice A1_1 l1_1.length c1_1, .int .i64 a1_2, .int .i64 a1_3, .int .i64 a1_4] 30 (0, 0))) := ⟨by rw [hw123_]; (with_reducible repeat (first | refine blk_drewN ?_ _ | refine blk_drew ?_ | refine blk_alloc ?_ _)); refine blk_far ?_ NB280_299.out _; (with_reducible repeat (first | refine blk_drewN ?_ _ | refine blk_drew ?_ | refine blk_alloc ?_ _)); refine blk_far ?_ NB280_299.out _; (with_reducible repeat (first | refine blk_drewN ?_ _ | refine blk_drew ?_ | refine blk_alloc ?_ _)); refine blk_far ?_ NB280_299.out _; (with_reducible repeat (first | refine blk_drewN ?_ _ | refine blk_drew ?_ | refine blk_alloc ?_ _)); refine blk_far ?_ NB280_299.out _; (with_reducible repeat (first | refine blk_drewN ?_ _ | refine blk_drew ?_ | refine blk_alloc ?_ _)); refine blk_far ?_ NB280_299.out _; (with_reducible repeat (first | refine blk_drewN ?_ _ | refine blk_drew ?_ | refine blk_alloc ?_ _)); exact BK280.out⟩
     have n3_ : Aside0 (w123.heap[gb291]? = some (.cells #[.int .i64 ((rd_T46 ((rd_T44 l0_0 a2).f4) x9_1).f0), .int .i64 ((rd_T46 ((rd_T44 l0_0 a2).f4) x9_1).f1), .int .i64 ((rd_T46 ((rd_T44 l0_0 a2).f4) x9_1).f2), .int .i64 ((rd_T46 ((rd_T44 l0_0 a2).f4) x9_1).f3)] 46 (0, 0))) := ⟨by rw [hw123_]; (with_reducible repeat (first | refine blk_drewN ?_ _ | refine blk_drew ?_ | refine blk_alloc ?_ _)); refine blk_far ?_ NB291_299.out _; (with_reducible repeat (first | refine blk_drewN ?_ _ | refine blk_drew ?_ | refine blk_alloc ?_ _)); refine blk_far ?_ NB291_299.out _; (with_reducible repeat (first | refine blk_drewN ?_ _ | refine blk_drew ?_ | refine blk_alloc ?_ _)); refine blk_far ?_ NB291_299.out _; (with_reducible repeat (first | refine blk_drewN ?_ _ | refine blk_drew ?_ | refine blk_alloc ?_ _)); refine blk_far ?_ NB291_299.out _; (with_reducible repeat (first | refine blk_drewN ?_ _ | refine blk_drew ?_ | refine blk_alloc ?_ _)); refine blk_far ?_ NB291_299.out _; (with_reducible repeat (first | refine blk_drewN ?_ _ | refine blk_drew ?_ | refine blk_alloc ?_ _)); exact BK291.out⟩
     have n4_ : Aside0 (w123.heap[gb299]? = some (.cells #[.int .i64 t293, .int .i64 t294, .int .i64 t295, .int .i64 t296, .int .i64 t297] 49 (0, 0))) := ⟨by rw [hw123_]; (with_reducible repeat (first | refine blk_drewN ?_ _ | refine blk_drew ?_ | refine blk_alloc ?_ _)); refine blk_put (cs := #[.int .i64 t293, .int .i64 t294, .int .i64 t295, .int .i64 t296, .int .i64 0]) ?_ 4 _ rfl; (with_reducible repeat (first | refine blk_drewN ?_ _ | refine blk_drew ?_ | refine blk_alloc ?_ _)); refine blk_put (cs := #[.int .i64 t293, .int .i64 t294, .int .i64 t295, .int .i64 0, .int .i64 0]) ?_ 3 _ rfl; (with_reducible repeat (first | refine blk_drewN ?_ _ | refine blk_drew ?_ | refine blk_alloc ?_ _)); refine blk_put (cs := #[.int .i64 t293, .int .i64 t294, .int .i64 0, .int .i64 0, .int .i64 0]) ?_ 2 _ rfl; (with_reducible repeat (first | refine blk_drewN ?_ _ | refine blk_drew ?_ | refine blk_alloc ?_ _)); refine blk_put (cs := #[.int .i64 t293, .int .i64 0, .int .i64 0, .int .i64 0, .int .i64 0]) ?_ 1 _ rfl; (with_reducible repeat (first | refine blk_drewN ?_ _ | refine blk_drew ?_ | refine blk_alloc ?_ _)); refine blk_put (cs := #[.int .i64 0, .int .i64 0, .int .i64 0, .int .i64 0, .int .i64 0]) ?_ 0 _ rfl; (with_reducible repeat (first | refine blk_drewN ?_ _ | refine blk_drew ?_ | refine blk_alloc ?_ _)); exact BK299.out⟩
     have n5_ : Aside0 (Below w.heap.size w w123) := ⟨by rw [hw123_]; repeat (first | (with_reducible first | exact HB.out | apply below_alloc | apply pw_below_drewN | apply below_drew1 | refine below_set ?_ GE279.out | refine below_set ?_ GE280.out | refine below_set ?_ GE291.out | refine below_set ?_ GE299.out) | exact HB.out)⟩
     (try clear HO_8)
     (try clear BK279)
     (try clear BK280)
     (try clear BK291)
     (try clear BK299)
     (try clear HB)
     (try rw [← hw123_])
     clear hw123_
     have HO_8 := n0_
     have BK279 := n1_
     have BK280 := n2_
     have BK291 := n3_
     have BK299 := n4_
     have HB := n5_
     clear n0_ n1_ n2_ n3_ n4_ n5_
     have n0_ := Aside0.mk (Kd.R_drew HO_8.out)
     have n1_ := Aside0.mk (blk_drew BK279.out)
     have n2_ := Aside0.mk (blk_drew BK280.out)
     have n3_ := Aside0.mk (blk_drew BK291.out)
     have n4_ := Aside0.mk (blk_drew BK299.out)
     have n5_ := Aside0.mk (below_drew1 HB.out)
     clear HO_8
     clear BK279
     clear BK280
     clear BK291
     clear BK299
     clear HB
     have HO_8 := n0_
     have BK279 := n1_
     have BK280 := n2_
     have BK291 := n3_
     have BK299 := n4_
     have HB := n5_
     clear n0_ n1_ n2_ n3_ n4_ n5_
     have p305 : 0 ≤ (((rd_T46 ((rd_T44 l0_0 a2).f4) x9_1).f2) : Int) := of_decide_eq_true (by first | (with_reducible assumption) | assumption)
     have q305 : ((rd_T46 ((rd_T44 l0_0 a2).f4) x9_1).f2) < (l1_1.length : Int) := of_decide_eq_true (by first | (with_reducible assumption) | assumption)
     obtain ⟨ad305, e305, hx305_0⟩ := Kd.at_int HR1_1.out ((rd_T46 ((rd_T44 l0_0 a2).f4) x9_1).f2) p305 q305
     have hw305_0 := hx305_0
     cases e305
     replace hx305_0 := (HB.out.cell (World.block_lt_of_cell? w _ hx305_0)).trans hx305_0
     replace p305 := eq_true p305
     replace q305 := eq_true q305
     refine start_ (n := 11) (S := fun w' => w'.cell? ⟨gb280, 0, none⟩ = some (.slice A1_0 l1_0.length c1_0) ∧ w'.cell? ⟨gb280, 1, none⟩ = some (.slice (some ad305) l1_1.length c1_1) ∧ w'.cell? ⟨gb280, 2, none⟩ = some (.int .i64 a1_2) ∧ w'.cell? ⟨gb280, 3, none⟩ = some (.int .i64 a1_3) ∧ w'.cell? ⟨gb280, 4, none⟩ = some (.int .i64 a1_4) ∧ w'.cell? ⟨gb291, 0, none⟩ = some (.int .i64 ((rd_T46 ((rd_T44 l0_0 a2).f4) x9_1).f0)) ∧ w'.cell? ⟨gb291, 1, none⟩ = some (.int .i64 ((rd_T46 ((rd_T44 l0_0 a2).f4) x9_1).f1)) ∧ w'.cell? ⟨gb291, 2, none⟩ = some (.int .i64 ((rd_T46 ((rd_T44 l0_0 a2).f4) x9_1).f2)) ∧ w'.cell? ⟨gb291, 3, none⟩ = some (.int .i64 ((rd_T46 ((rd_T44 l0_0 a2).f4) x9_1).f3)) ∧ w'.cell? (ad305.add (((rd_T46 ((rd_T44 l0_0 a2).f4) x9_1).f2)).toNat) = some (.int .i64 (rd l1_1 ((rd_T46 ((rd_T44 l0_0 a2).f4) x9_1).f2)))) (ds := []) #[false, false, false, false, false, false, false, false, false, false, false] (by kernel_rfl) rfl rfl ⟨(blk_cell BK280.out 0).trans rfl, (blk_cell BK280.out 1).trans rfl, (blk_cell BK280.out 2).trans rfl, (blk_cell BK280.out 3).trans rfl, (blk_cell BK280.out 4).trans rfl, (blk_cell BK291.out 0).trans rfl, (blk_cell BK291.out 1).trans rfl, (blk_cell BK291.out 2).trans rfl, (blk_cell BK291.out 3).trans rfl, ((HB.out.cell (World.block_lt_of_cell? w _ hw305_0)).trans hw305_0)⟩ (fun hHeld => ?_); refine with_tabW spliceref13_Code.tab13 spliceref13_Code.bits13 (fun HT_ HW_ => ?_)
     generalize w123.drew = w124 at HO_8 BK279 BK280 BK291 BK299 HB hx305_0 hHeld ⊢
     refine pure_ (i := 0) (N := some 86) (v := ?_) (a' := ?_) #[true, false, false, false, false, false, false, false, false, false, false] rfl rfl (any_of HT_.out (by kernel_rfl)) (fun _ _ _ h => h) (Or.inl ⟨by rfl, ?_⟩) ?_ ?_
     rotate_left
     ·
      intro w'
      go_simp
      with_reducible rfl
     rotate_left
     ·
      simp only [Act.put, List.setIfInBounds_toArray, List.set_cons_zero, List.set_cons_succ, i64_w, i32_w]
      rfl
     refine pure_ (i := 2) (N := some 88) (v := ?_) (a' := ?_) #[true, false, true, false, false, false, false, false, false, false, false] rfl rfl (any_of HT_.out (by kernel_rfl)) (fun _ _ _ h => h) (Or.inl ⟨by rfl, ?_⟩) ?_ ?_
     rotate_left
     ·
      intro w'
      go_simp
      with_reducible rfl
     rotate_left
     ·
      simp only [Act.put, List.setIfInBounds_toArray, List.set_cons_zero, List.set_cons_succ, i64_w, i32_w]
      rfl
     refine pure_ (i := 7) (N := some 93) (v := ?_) (a' := ?_) #[true, false, true, false, false, false, false, true, false, false, false] rfl rfl (any_of HT_.out (by kernel_rfl)) (fun _ _ _ h => h) (Or.inl ⟨by rfl, ?_⟩) ?_ ?_
     rotate_left
     ·
      intro w'
      go_simp
      with_reducible rfl
     rotate_left
     ·
      simp only [Act.put, List.setIfInBounds_toArray, List.set_cons_zero, List.set_cons_succ, i64_w, i32_w]
      rfl
     refine take_ (i := 1) (N := some 87) (v := ?_) (a' := ?_) #[true, true, true, false, false, false, false, true, false, false, false] rfl rfl (take_ofW HT_.out HW_.out (by kernel_rfl)) (fun _ _ _ h => h) (Or.inl ⟨by rfl, ?_⟩) hHeld ?_ ?_
     rotate_left
     ·
      rintro w' ⟨s0, s1, s2, s3, s4, s5, s6, s7, s8, s9⟩
      go_simp
      with_reducible rfl
     rotate_left
     ·
      simp only [Act.put, List.setIfInBounds_toArray, List.set_cons_zero, List.set_cons_succ, i64_w, i32_w]
      rfl
     refine take_ (i := 3) (N := some 89) (v := ?_) (a' := ?_) #[true, true, true, true, false, false, false, true, false, false, false] rfl rfl (take_ofW HT_.out HW_.out (by kernel_rfl)) (fun _ _ _ h => h) (Or.inl ⟨by rfl, ?_⟩) hHeld ?_ ?_
     rotate_left
     ·
      rintro w' ⟨s0, s1, s2, s3, s4, s5, s6, s7, s8, s9⟩
      go_simp
      with_reducible rfl
     rotate_left
     ·
      simp only [Act.put, List.setIfInBounds_toArray, List.set_cons_zero, List.set_cons_succ, i64_w, i32_w]
      rfl
     refine pure_ (i := 4) (N := some 90) (v := ?_) (a' := ?_) #[true, true, true, true, true, false, false, true, false, false, false] rfl rfl (any_of HT_.out (by kernel_rfl)) (fun _ _ _ h => h) (Or.inl ⟨by rfl, ?_⟩) ?_ ?_
     rotate_left
     ·
      intro w'
      go_simp
      with_reducible rfl
     rotate_left
     ·
      simp only [Act.put, List.setIfInBounds_toArray, List.set_cons_zero, List.set_cons_succ, i64_w, i32_w]
      rfl
     refine take_ (i := 5) (N := some 91) (v := ?_) (a' := ?_) #[true, true, true, true, true, true, false, true, false, false, false] rfl rfl (take_ofW HT_.out HW_.out (by kernel_rfl)) (fun _ _ _ h => h) (Or.inl ⟨by rfl, ?_⟩) hHeld ?_ ?_
     rotate_left
     ·
      rintro w' ⟨s0, s1, s2, s3, s4, s5, s6, s7, s8, s9⟩
      go_simp
      with_reducible rfl
     rotate_left
     ·
      simp only [Act.put, List.setIfInBounds_toArray, List.set_cons_zero, List.set_cons_succ, i64_w, i32_w]
      rfl
     refine pure_ (i := 6) (N := some 92) (v := ?_) (a' := ?_) #[true, true, true, true, true, true, true, true, false, false, false] rfl rfl (any_of HT_.out (by kernel_rfl)) (fun _ _ _ h => h) (Or.inl ⟨by rfl, ?_⟩) ?_ ?_
     rotate_left
     ·
      intro w'
      go_simp
      with_reducible rfl
     rotate_left
     ·
      simp only [Act.put, List.setIfInBounds_toArray, List.set_cons_zero, List.set_cons_succ, i64_w, i32_w]
      rfl
     refine take_ (i := 8) (N := some 94) (v := ?_) (a' := ?_) #[true, true, true, true, true, true, true, true, true, false, false] rfl rfl (take_ofW HT_.out HW_.out (by kernel_rfl)) (fun _ _ _ h => h) (Or.inl ⟨by rfl, ?_⟩) hHeld ?_ ?_
     rotate_left
     ·
      rintro w' ⟨s0, s1, s2, s3, s4, s5, s6, s7, s8, s9⟩
      go_simp
      with_reducible rfl
     rotate_left
     ·
      simp only [Act.put, List.setIfInBounds_toArray, List.set_cons_zero, List.set_cons_succ, i64_w, i32_w]
      rfl
     refine pure_ (i := 9) (N := some 95) (v := ?_) (a' := ?_) #[true, true, true, true, true, true, true, true, true, true, false] rfl rfl (any_of HT_.out (by kernel_rfl)) (fun _ _ _ h => h) (Or.inl ⟨by rfl, ?_⟩) ?_ ?_
     rotate_left
     ·
      intro w'
      go_simp
      with_reducible rfl
     rotate_left
     ·
      simp only [Act.put, List.setIfInBounds_toArray, List.set_cons_zero, List.set_cons_succ, i64_w, i32_w]
      rfl
     refine pure_ (i := 10) (N := some 13) (v := ?_) (a' := ?_) #[true, true, true, true, true, true, true, true, true, true, true] rfl rfl (any_of HT_.out (by kernel_rfl)) (fun _ _ _ h => h) (Or.inl ⟨by rfl, ?_⟩) ?_ ?_
     rotate_left
     ·
      intro w'
      go_simp
      with_reducible rfl
     rotate_left
     ·
      simp only [Act.put, List.setIfInBounds_toArray, List.set_cons_zero, List.set_cons_succ, i64_w, i32_w]
      rfl
     refine done_ (done_of HT_.out (by kernel_rfl)) ?_
     go_upto_region 14 with (fail)
     go_cut [101] (fun v101 wc => ∃ (kq : Nat) (x101_107 : Bool), v101 = .bool x101_107 ∧ Aside0 (spliceref13_Code.j1 kq a2 x8_1 x9_1 (wrap64 ((wrap64 (65536 + (rd l1_1 ((rd_T46 ((rd_T44 l0_0 a2).f4) x9_1).f2)))) + ((rd_T46 ((rd_T44 l0_0 a2).f4) x9_1).f3))) x101_107 l0_0 l0_1 a0_2 l1_0 l1_1 a1_2 a1_3 a1_4 ((rd_T46 ((rd_T44 l0_0 a2).f4) x9_1).f0) ((rd_T46 ((rd_T44 l0_0 a2).f4) x9_1).f1) ((rd_T46 ((rd_T44 l0_0 a2).f4) x9_1).f2) ((rd_T46 ((rd_T44 l0_0 a2).f4) x9_1).f3) t293 t294 t295 t296 t297 = some (r1, r2)) ∧ Aside0 (kq ≤ k1) ∧ Aside0 (Kd.R (Kd.int .u32) 47 wc w.heap.size (fun _ => True) (.slice (some ad292) x8_1.length co115) x8_1) ∧ Aside0 (wc.heap[gb279]? = some (.cells #[(.slice (some ad284) l0_0.length c0_0), (.slice A0_1 l0_1.length c0_1), .int .i64 a0_2] 25 (0, 0))) ∧ Aside0 (wc.heap[gb280]? = some (.cells #[(.slice A1_0 l1_0.length c1_0), (.slice (some ad305) l1_1.length c1_1), .int .i64 a1_2, .int .i64 a1_3, .int .i64 a1_4] 30 (0, 0))) ∧ Aside0 (wc.heap[gb291]? = some (.cells #[.int .i64 ((rd_T46 ((rd_T44 l0_0 a2).f4) x9_1).f0), .int .i64 ((rd_T46 ((rd_T44 l0_0 a2).f4) x9_1).f1), .int .i64 ((rd_T46 ((rd_T44 l0_0 a2).f4) x9_1).f2), .int .i64 ((rd_T46 ((rd_T44 l0_0 a2).f4) x9_1).f3)] 46 (0, 0))) ∧ Aside0 (wc.heap[gb299]? = some (.cells #[.int .i64 t293, .int .i64 t294, .int .i64 t295, .int .i64 t296, .int .i64 t297] 49 (0, 0))) ∧ Aside0 (Below w.heap.size w wc))
     case first =>
      have H := HC108.out
      clear HC108
      by_cases c125 : (wrap64 ((wrap64 (65536 + (rd l1_1 ((rd_T46 ((rd_T44 l0_0 a2).f4) x9_1).f2)))) + ((rd_T46 ((rd_T44 l0_0 a2).f4) x9_1).f3))) < 0
      ·
       rw [if_pos c125] at H
       have c125b0 : decide ((wrap64 ((wrap64 (65536 + (rd l1_1 ((rd_T46 ((rd_T44 l0_0 a2).f4) x9_1).f2)))) + ((rd_T46 ((rd_T44 l0_0 a2).f4) x9_1).f3))) < 0) = true := decide_eq_true c125
       clear c125
       (first | (generalize hb_ : decide ((wrap64 ((wrap64 (65536 + (rd l1_1 ((rd_T46 ((rd_T44 l0_0 a2).f4) x9_1).f2)))) + ((rd_T46 ((rd_T44 l0_0 a2).f4) x9_1).f3))) < 0) = bb_ at *; subst c125b0; have c125b0 := hb_; clear hb_) | rw [c125b0] | (simp only [i64_w, i32_w]; rw [c125b0]) | skip)
       have H' := Aside0.mk H
       clear H
       go_wp2
       go_meet
       case rel => exact ⟨_, (true), (by first | rfl | (simp; done) | (simp [*]; done)), H', ⟨by have := HK1.out; first | omega | exact Nat.le_refl _⟩, ⟨by (with_reducible repeat (first | apply Kd.R_alloc | apply Kd.R_drewN | apply Kd.R_drew)); exact HO_8.out⟩, ⟨by (with_reducible repeat (first | refine blk_drewN ?_ _ | refine blk_drew ?_ | refine blk_alloc ?_ _)); exact BK279.out⟩, ⟨by (with_reducible repeat (first | refine blk_drewN ?_ _ | refine blk_drew ?_ | refine blk_alloc ?_ _)); exact BK280.out⟩, ⟨by (with_reducible repeat (first | refine blk_drewN ?_ _ | refine blk_drew ?_ | refine blk_alloc ?_ _)); exact BK291.out⟩, ⟨by (with_reducible repeat (first | refine blk_drewN ?_ _ | refine blk_drew ?_ | refine blk_alloc ?_ _)); exact BK299.out⟩, ⟨by repeat (first | (with_reducible first | exact HB.out | apply below_alloc | apply pw_below_drewN | apply below_drew1 | refine below_set ?_ GE279.out | refine below_set ?_ GE280.out | refine below_set ?_ GE291.out | refine below_set ?_ GE299.out) | exact HB.out)⟩⟩
      ·
       rw [if_neg c125] at H
       have c125b0 : decide ((wrap64 ((wrap64 (65536 + (rd l1_1 ((rd_T46 ((rd_T44 l0_0 a2).f4) x9_1).f2)))) + ((rd_T46 ((rd_T44 l0_0 a2).f4) x9_1).f3))) < 0) = false := decide_eq_false c125
       clear c125
       (first | (generalize hb_ : decide ((wrap64 ((wrap64 (65536 + (rd l1_1 ((rd_T46 ((rd_T44 l0_0 a2).f4) x9_1).f2)))) + ((rd_T46 ((rd_T44 l0_0 a2).f4) x9_1).f3))) < 0) = bb_ at *; subst c125b0; have c125b0 := hb_; clear hb_) | rw [c125b0] | (simp only [i64_w, i32_w]; rw [c125b0]) | skip)
       have H' := Aside0.mk H
       clear H
       go_wp2
       go_meet
       case rel => exact ⟨_, (decide ((wrap64 ((wrap64 (65536 + (rd l1_1 ((rd_T46 ((rd_T44 l0_0 a2).f4) x9_1).f2)))) + ((rd_T46 ((rd_T44 l0_0 a2).f4) x9_1).f3))) > 4294967295)), (by first | rfl | (simp; done) | (simp [*]; done)), H', ⟨by have := HK1.out; first | omega | exact Nat.le_refl _⟩, ⟨by (with_reducible repeat (first | apply Kd.R_alloc | apply Kd.R_drewN | apply Kd.R_drew)); exact HO_8.out⟩, ⟨by (with_reducible repeat (first | refine blk_drewN ?_ _ | refine blk_drew ?_ | refine blk_alloc ?_ _)); exact BK279.out⟩, ⟨by (with_reducible repeat (first | refine blk_drewN ?_ _ | refine blk_drew ?_ | refine blk_alloc ?_ _)); exact BK280.out⟩, ⟨by (with_reducible repeat (first | refine blk_drewN ?_ _ | refine blk_drew ?_ | refine blk_alloc ?_ _)); exact BK291.out⟩, ⟨by (with_reducible repeat (first | refine blk_drewN ?_ _ | refine blk_drew ?_ | refine blk_alloc ?_ _)); exact BK299.out⟩, ⟨by repeat (first | (with_reducible first | exact HB.out | apply below_alloc | apply pw_below_drewN | apply below_drew1 | refine below_set ?_ GE279.out | refine below_set ?_ GE280.out | refine below_set ?_ GE291.out | refine below_set ?_ GE299.out) | exact HB.out)⟩⟩
     case rest =>
      clear HC108
      (try clear c1); (try clear c2); (try clear p2); (try clear q2); (try clear hx2); (try clear p3); (try clear q3); (try clear hx3); (try clear c4); (try clear p6); (try clear p8); (try clear q8); (try clear hx8); (try clear hf8); (try clear c10); (try clear c11); (try clear c12); (try clear c17); (try clear c21); (try clear c21b0); (try clear c21b1); (try clear c22); (try clear c23); (try clear c28); (try clear p28); (try clear q28); (try clear hx28); (try clear c29); (try clear p29); (try clear q29); (try clear hx29); (try clear p30); (try clear q30); (try clear hx30); (try clear c40); (try clear p64); (try clear p82); (try clear q82); (try clear hx82); (try clear hf82); (try clear c106); (try clear c106b0); (try clear c107); (try clear c107b0); (try clear c109); (try clear c112); (try clear c113); (try clear c118); (try clear c119); (try clear c120); (try clear c125); (try clear c125b0); (try clear hcz101_0); (try clear hcz101_1); (try clear hcz101_2); (try clear hcz101_3); (try clear hcz101_4); (try clear hcz110_0); (try clear hcz110_1); (try clear hcz110_2); (try clear hcz114_0); (try clear hcz114_1); (try clear hcz114_2); (try clear hcz114_3); (try clear hcz121_0); (try clear hcz121_1); (try clear hcz121_2); (try clear hcz121_3); (try clear hcz121_4); (try clear hcz122_0); (try clear hcz122_1); (try clear hcz122_2); (try clear hcz122_3); (try clear hfz101_0); (try clear hfz101_1); (try clear hfz101_2); (try clear hfz101_3); (try clear hfz101_4); (try clear hfz110_0); (try clear hfz110_1); (try clear hfz110_2); (try clear hfz114_0); (try clear hfz114_1); (try clear hfz114_2); (try clear hfz114_3); (try clear hfz121_0); (try clear hfz121_1); (try clear hfz121_2); (try clear hfz121_3); (try clear hfz121_4); (try clear hfz122_0); (try clear hfz122_1); (try clear hfz122_2); (try clear hfz122_3); (try clear hx288_0); (try clear hx288_1); (try clear hx288_2); (try clear hx288_3); (try clear hx288_4); (try clear hx289_0); (try clear hx289_1); (try clear hx289_2); (try clear hx289_3)
      (try clear hx289_4); (try clear hx290_0); (try clear hx290_1); (try clear hx290_2); (try clear hx290_3); (try clear hx292_0); (try clear hx301_0); (try clear hx302_0); (try clear hx305_0); (try clear hx82_0); (try clear p288); (try clear p289); (try clear p290); (try clear p292); (try clear p301); (try clear p302); (try clear p305); (try clear p82); (try clear q288); (try clear q289); (try clear q290); (try clear q292); (try clear q301); (try clear q302); (try clear q305); (try clear q82)
      obtain ⟨kq, x101_107, rfl, HA, HJ107, HO_8, BK279, BK280, BK291, BK299, HB⟩ := hcut
      cases kq with
      | zero => exact absurd HA.out (by simp [spliceref13_Code.j1])
      | succ kj107 =>
       have H := HA.out
       clear HA
       simp only [spliceref13_Code.j1] at H
       by_cases c126 : x101_107 = true
       ·
        subst c126
        rw [if_pos rfl] at H
        simp only [Option.some.injEq, Prod.mk.injEq] at H
        obtain ⟨rfl, rfl⟩ := H
        go_wp2
        go_ret2
        exact ⟨_, by first | rfl | (simp [errW_none, errW_some] <;> rfl) | (simp [*, errW_none, errW_some] <;> rfl), by first | exact Kd.R_nil _ _ _ _ _ | exact Kd.N_nil _ _ _ _ _ | exact Kd.V_nil _ _ _ _ _ | exact Kd.Q_nil _ _ _ _ _ | exact Kd.S_nil _ _ _ _ _, by repeat (first | (with_reducible first | exact HB.out | apply below_alloc | apply pw_below_drewN | apply below_drew1 | refine below_set ?_ GE279.out | refine below_set ?_ GE280.out | refine below_set ?_ GE291.out | refine below_set ?_ GE299.out) | exact HB.out)⟩
       ·
        replace c126 := Bool.eq_false_iff.mpr c126
        subst c126
        rw [if_neg Bool.false_ne_true] at H
        by_cases c127 : ((rd_T46 ((rd_T44 l0_0 a2).f4) x9_1).f1) = 3
        ·
         rw [if_pos c127] at H
         have c127b0 : (((rd_T46 ((rd_T44 l0_0 a2).f4) x9_1).f1) == 3) = true := beq_iff_eq.mpr c127
         have c127b1 : (((rd_T46 ((rd_T44 l0_0 a2).f4) x9_1).f1) != 3) = false := bne_eq_false_iff_eq.mpr c127
         clear c127
         replace H := Option.bind_eq_some_iff.mp H
         obtain ⟨t306, A1280, H⟩ := H
         try dsimp only at H
         have A128 := Aside0.mk A1280
         clear A1280
         by_cases c129 : 0 ≤ ((rd_T46 ((rd_T44 l0_0 a2).f4) x9_1).f0)
         case neg =>
          rw [if_neg c129] at H
          exact absurd H (by simp)
         rw [if_pos c129] at H
         have c129b0 : decide (0 ≤ ((rd_T46 ((rd_T44 l0_0 a2).f4) x9_1).f0)) = true := decide_eq_true c129
         clear c129
         by_cases c130 : ((rd_T46 ((rd_T44 l0_0 a2).f4) x9_1).f0) < (x8_1.length : Int)
         case neg =>
          rw [if_neg c130] at H
          exact absurd H (by simp)
         rw [if_pos c130] at H
         have c130b0 : decide (((rd_T46 ((rd_T44 l0_0 a2).f4) x9_1).f0) < (x8_1.length : Int)) = true := decide_eq_true c130
         clear c130
         obtain ⟨y307, hy307⟩ : ∃ y_ : List Int, y_ = (x8_1.set (((rd_T46 ((rd_T44 l0_0 a2).f4) x9_1).f0) : Int).toNat t306) := ⟨_, rfl⟩
         (first | rw [Option.bind_some, ← hy307] at H | rw [← hy307] at H | skip)
         have Ny307 := Aside0.mk hy307
         clear hy307
         have H' := Aside0.mk H
         clear H
         have hnb132 := NB299_279.out
         have hnc132 := NB279_299.out
         have hnb133 := NB299_280.out
         have hnc133 := NB280_299.out
         have hnb134 := NB299_291.out
         have hnc134 := NB291_299.out
         obtain ⟨hcz135_0, hcz135_1, hcz135_2, hcz135_3, hcz135_4⟩ := blkc40_5 BK299.out
         obtain ⟨hfz135_0, hfz135_1, hfz135_2, hfz135_3, hfz135_4⟩ := blkf40_5 BK299.out
         have hnb136 := NB291_279.out
         have hnc136 := NB279_291.out
         have hnb137 := NB291_280.out
         have hnc137 := NB280_291.out
         have hcz138_0 : wc.cell? ⟨gb291, 0, none⟩ = some (.int .i64 ((rd_T46 ((rd_T44 l0_0 a2).f4) x9_1).f0)) := (blk_cell BK291.out 0).trans rfl
         have hcz138_1 : wc.cell? ⟨gb291, 1, none⟩ = some (.int .i64 ((rd_T46 ((rd_T44 l0_0 a2).f4) x9_1).f1)) := (blk_cell BK291.out 1).trans rfl
         have hcz138_2 : wc.cell? ⟨gb291, 2, none⟩ = some (.int .i64 ((rd_T46 ((rd_T44 l0_0 a2).f4) x9_1).f2)) := (blk_cell BK291.out 2).trans rfl
         have hcz138_3 : wc.cell? ⟨gb291, 3, none⟩ = some (.int .i64 ((rd_T46 ((rd_T44 l0_0 a2).f4) x9_1).f3)) := (blk_cell BK291.out 3).trans rfl
         obtain ⟨hfz138_0, hfz138_1, hfz138_2, hfz138_3⟩ := blkf40_4 BK291.out
         try go_wp2
         obtain ⟨w139, hw139_⟩ : ∃ w_ : World, w_ = ((wc.setCell ⟨gb299, 4, none⟩ (.int .i64 (wrap64 (Int.tdiv (wrap64 ((wrap64 (65536 + (rd l1_1 ((rd_T46 ((rd_T44 l0_0 a2).f4) x9_1).f2)))) + ((rd_T46 ((rd_T44 l0_0 a2).f4) x9_1).f3))) 65536)))).setCell ⟨gb299, 4, none⟩ (.int .i64 (Int.tmod (wrap64 ((wrap64 (65536 + (rd l1_1 ((rd_T46 ((rd_T44 l0_0 a2).f4) x9_1).f2)))) + ((rd_T46 ((rd_T44 l0_0 a2).f4) x9_1).f3))) 65536))) := ⟨_, rfl⟩
         have n0_ : Aside0 (Kd.R (Kd.int .u32) 47 w139 w.heap.size (fun _ => True) (.slice (some ad292) x8_1.length co115) x8_1) := ⟨by rw [hw139_]; (with_reducible repeat (first | apply Kd.R_alloc | apply Kd.R_drewN | apply Kd.R_drew)); exact Kd.R_mono (Kd.R_far (p := ⟨gb299, 4, none⟩) (Kd.R_far (p := ⟨gb299, 4, none⟩) (Kd.R_types HO_8.out BK299.out (by decide)) (fun _ hk => hk.2) (.int .i64 (wrap64 (Int.tdiv (wrap64 ((wrap64 (65536 + (rd l1_1 ((rd_T46 ((rd_T44 l0_0 a2).f4) x9_1).f2)))) + ((rd_T46 ((rd_T44 l0_0 a2).f4) x9_1).f3))) 65536)))) (fun _ hk => hk.2) (.int .i64 (Int.tmod (wrap64 ((wrap64 (65536 + (rd l1_1 ((rd_T46 ((rd_T44 l0_0 a2).f4) x9_1).f2)))) + ((rd_T46 ((rd_T44 l0_0 a2).f4) x9_1).f3))) 65536))) (fun _ hk => trivial)⟩
         have n1_ : Aside0 (w139.heap[gb279]? = some (.cells #[.slice (some ad284) l0_0.length c0_0, .slice A0_1 l0_1.length c0_1, .int .i64 a0_2] 25 (0, 0))) := ⟨by rw [hw139_]; (with_reducible repeat (first | refine blk_drewN ?_ _ | refine blk_drew ?_ | refine blk_alloc ?_ _)); refine blk_far ?_ NB279_299.out _; (with_reducible repeat (first | refine blk_drewN ?_ _ | refine blk_drew ?_ | refine blk_alloc ?_ _)); refine blk_far ?_ NB279_299.out _; (with_reducible repeat (first | refine blk_drewN ?_ _ | refine blk_drew ?_ | refine blk_alloc ?_ _)); exact BK279.out⟩
         have n2_ : Aside0 (w139.heap[gb280]? = some (.cells #[.slice A1_0 l1_0.length c1_0, .slice (some ad305) l1_1.length c1_1, .int .i64 a1_2, .int .i64 a1_3, .int .i64 a1_4] 30 (0, 0))) := ⟨by rw [hw139_]; (with_reducible repeat (first | refine blk_drewN ?_ _ | refine blk_drew ?_ | refine blk_alloc ?_ _)); refine blk_far ?_ NB280_299.out _; (with_reducible repeat (first | refine blk_drewN ?_ _ | refine blk_drew ?_ | refine blk_alloc ?_ _)); refine blk_far ?_ NB280_299.out _; (with_reducible repeat (first | refine blk_drewN ?_ _ | refine blk_drew ?_ | refine blk_alloc ?_ _)); exact BK280.out⟩
         have n3_ : Aside0 (w139.heap[gb291]? = some (.cells #[.int .i64 ((rd_T46 ((rd_T44 l0_0 a2).f4) x9_1).f0), .int .i64 ((rd_T46 ((rd_T44 l0_0 a2).f4) x9_1).f1), .int .i64 ((rd_T46 ((rd_T44 l0_0 a2).f4) x9_1).f2), .int .i64 ((rd_T46 ((rd_T44 l0_0 a2).f4) x9_1).f3)] 46 (0, 0))) := ⟨by rw [hw139_]; (with_reducible repeat (first | refine blk_drewN ?_ _ | refine blk_drew ?_ | refine blk_alloc ?_ _)); refine blk_far ?_ NB291_299.out _; (with_reducible repeat (first | refine blk_drewN ?_ _ | refine blk_drew ?_ | refine blk_alloc ?_ _)); refine blk_far ?_ NB291_299.out _; (with_reducible repeat (first | refine blk_drewN ?_ _ | refine blk_drew ?_ | refine blk_alloc ?_ _)); exact BK291.out⟩
         have n4_ : Aside0 (w139.heap[gb299]? = some (.cells #[.int .i64 t293, .int .i64 t294, .int .i64 t295, .int .i64 t296, .int .i64 (Int.tmod (wrap64 ((wrap64 (65536 + (rd l1_1 ((rd_T46 ((rd_T44 l0_0 a2).f4) x9_1).f2)))) + ((rd_T46 ((rd_T44 l0_0 a2).f4) x9_1).f3))) 65536)] 49 (0, 0))) := ⟨by rw [hw139_]; (with_reducible repeat (first | refine blk_drewN ?_ _ | refine blk_drew ?_ | refine blk_alloc ?_ _)); refine blk_put (cs := #[.int .i64 t293, .int .i64 t294, .int .i64 t295, .int .i64 t296, .int .i64 (wrap64 (Int.tdiv (wrap64 ((wrap64 (65536 + (rd l1_1 ((rd_T46 ((rd_T44 l0_0 a2).f4) x9_1).f2)))) + ((rd_T46 ((rd_T44 l0_0 a2).f4) x9_1).f3))) 65536))]) ?_ 4 _ rfl; (with_reducible repeat (first | refine blk_drewN ?_ _ | refine blk_drew ?_ | refine blk_alloc ?_ _)); refine blk_put (cs := #[.int .i64 t293, .int .i64 t294, .int .i64 t295, .int .i64 t296, .int .i64 t297]) ?_ 4 _ rfl; (with_reducible repeat (first | refine blk_drewN ?_ _ | refine blk_drew ?_ | refine blk_alloc ?_ _)); exact BK299.out⟩
         have n5_ : Aside0 (Below w.heap.size w w139) := ⟨by rw [hw139_]; repeat (first | (with_reducible first | exact HB.out | apply below_alloc | apply pw_below_drewN | apply below_drew1 | refine below_set ?_ GE279.out | refine below_set ?_ GE280.out | refine below_set ?_ GE291.out | refine below_set ?_ GE299.out) | exact HB.out)⟩
         (try clear HO_8)
         (try clear BK279)
         (try clear BK280)
         (try clear BK291)
         (try clear BK299)
         (try clear HB)
         (try rw [← hw139_])
         clear hw139_
         have HO_8 := n0_
         have BK279 := n1_
         have BK280 := n2_
         have BK291 := n3_
         have BK299 := n4_
         have HB := n5_
         clear n0_ n1_ n2_ n3_ n4_ n5_
         have n0_ := Aside0.mk (Kd.R_drew HO_8.out)
         have n1_ := Aside0.mk (blk_drew BK279.out)
         have n2_ := Aside0.mk (blk_drew BK280.out)
         have n3_ := Aside0.mk (blk_drew BK291.out)
         have n4_ := Aside0.mk (blk_drew BK299.out)
         have n5_ := Aside0.mk (below_drew1 HB.out)
         clear HO_8
         clear BK279
         clear BK280
         clear BK291
         clear BK299
         clear HB
         have HO_8 := n0_
         have BK279 := n1_
         have BK280 := n2_
         have BK291 := n3_
         have BK299 := n4_
         have HB := n5_
         clear n0_ n1_ n2_ n3_ n4_ n5_
         refine start_ (n := 7) (S := fun w' => w'.cell? ⟨gb291, 0, none⟩ = some (.int .i64 ((rd_T46 ((rd_T44 l0_0 a2).f4) x9_1).f0)) ∧ w'.cell? ⟨gb291, 1, none⟩ = some (.int .i64 ((rd_T46 ((rd_T44 l0_0 a2).f4) x9_1).f1)) ∧ w'.cell? ⟨gb291, 2, none⟩ = some (.int .i64 ((rd_T46 ((rd_T44 l0_0 a2).f4) x9_1).f2)) ∧ w'.cell? ⟨gb291, 3, none⟩ = some (.int .i64 ((rd_T46 ((rd_T44 l0_0 a2).f4) x9_1).f3)) ∧ w'.cell? ⟨gb299, 0, none⟩ = some (.int .i64 t293) ∧ w'.cell? ⟨gb299, 1, none⟩ = some (.int .i64 t294) ∧ w'.cell? ⟨gb299, 2, none⟩ = some (.int .i64 t295) ∧ w'.cell? ⟨gb299, 3, none⟩ = some (.int .i64 t296) ∧ w'.cell? ⟨gb299, 4, none⟩ = some (.int .i64 (Int.tmod (wrap64 ((wrap64 (65536 + (rd l1_1 ((rd_T46 ((rd_T44 l0_0 a2).f4) x9_1).f2)))) + ((rd_T46 ((rd_T44 l0_0 a2).f4) x9_1).f3))) 65536))) (ds := [6]) #[false, false, false, false, false, false, false] (by kernel_rfl) rfl rfl ⟨(blk_cell BK291.out 0).trans rfl, (blk_cell BK291.out 1).trans rfl, (blk_cell BK291.out 2).trans rfl, (blk_cell BK291.out 3).trans rfl, (blk_cell BK299.out 0).trans rfl, (blk_cell BK299.out 1).trans rfl, (blk_cell BK299.out 2).trans rfl, (blk_cell BK299.out 3).trans rfl, (blk_cell BK299.out 4).trans rfl⟩ (fun hHeld => ?_)
         generalize w139.drew = w140 at HO_8 BK279 BK280 BK291 BK299 HB hHeld ⊢
         refine pure_ (i := 0) (N := some 111) (v := ?_) (a' := ?_) #[true, false, false, false, false, false, false] rfl rfl (by kernel_rfl) (fun _ _ _ h => h) (Or.inl ⟨by rfl, ?_⟩) ?_ ?_
         rotate_left
         ·
          intro w'
          go_simp
          with_reducible rfl
         rotate_left
         ·
          simp only [Act.put, List.setIfInBounds_toArray, List.set_cons_zero, List.set_cons_succ, i64_w, i32_w]
          rfl
         refine pure_ (i := 1) (N := some 112) (v := ?_) (a' := ?_) #[true, true, false, false, false, false, false] rfl rfl (by kernel_rfl) (fun _ _ _ h => h) (Or.inl ⟨by rfl, ?_⟩) ?_ ?_
         rotate_left
         ·
          intro w'
          go_simp
          with_reducible rfl
         rotate_left
         ·
          simp only [Act.put, List.setIfInBounds_toArray, List.set_cons_zero, List.set_cons_succ, i64_w, i32_w]
          rfl
         refine take_ (i := 2) (N := some 113) (v := ?_) (a' := ?_) #[true, true, true, false, false, false, false] rfl rfl (by kernel_rfl) (fun _ _ _ h => h) (Or.inl ⟨by rfl, ?_⟩) hHeld ?_ ?_
         rotate_left
         ·
          rintro w' ⟨s0, s1, s2, s3, s4, s5, s6, s7, s8⟩
          go_simp
          with_reducible rfl
         rotate_left
         ·
          simp only [Act.put, List.setIfInBounds_toArray, List.set_cons_zero, List.set_cons_succ, i64_w, i32_w]
          rfl
         refine take_ (i := 3) (N := some 114) (v := ?_) (a' := ?_) #[true, true, true, true, false, false, false] rfl rfl (by kernel_rfl) (fun _ _ _ h => h) (Or.inl ⟨by rfl, ?_⟩) hHeld ?_ ?_
         rotate_left
         ·
          rintro w' ⟨s0, s1, s2, s3, s4, s5, s6, s7, s8⟩
          go_simp
          with_reducible rfl
         rotate_left
         ·
          simp only [Act.put, List.setIfInBounds_toArray, List.set_cons_zero, List.set_cons_succ, i64_w, i32_w]
          rfl
         refine one_ (i := 4) (N := some 115) #[true, true, true, true, true, false, false] rfl rfl (by kernel_rfl) (by decide) (fun K hK => ?_)
         refine goes_ Try.func29 (by kernel_rfl) rfl #[.agg #[.int .i64 t293, .int .i64 t294, .int .i64 t295, .int .i64 t296, .int .i64 (Int.tmod (wrap64 ((wrap64 (65536 + (rd l1_1 ((rd_T46 ((rd_T44 l0_0 a2).f4) x9_1).f2)))) + ((rd_T46 ((rd_T44 l0_0 a2).f4) x9_1).f3))) 65536)]] (by rfl) rfl rfl (by (try simp only [List.map_toArray, List.map_cons, List.map_nil]); first | done | rfl | (simp only [List.length_drop, List.length_take]; rfl)) ?_
         with_reducible refine (spliceref02_Put.calls kj107 t293 t294 t295 t296 (Int.tmod (wrap64 ((wrap64 (65536 + (rd l1_1 ((rd_T46 ((rd_T44 l0_0 a2).f4) x9_1).f2)))) + ((rd_T46 ((rd_T44 l0_0 a2).f4) x9_1).f3))) 65536) t306 _ A128.out).mono ?_
         rintro e w141 ⟨rfl, hb⟩
         refine ⟨_, rfl, ?_⟩
         have n0_ := Aside0.mk (Kd.R_below (by (with_reducible repeat (first | apply Kd.R_alloc | apply Kd.R_drewN | apply Kd.R_drew)); exact HO_8.out) hb)
         have n1_ := Aside0.mk (blk_below (g := gb279) (o := .cells #[.slice (some ad284) l0_0.length c0_0, .slice A0_1 l0_1.length c0_1, .int .i64 a0_2] 25 (0, 0)) (by (with_reducible repeat (first | refine blk_drewN ?_ _ | refine blk_drew ?_ | refine blk_alloc ?_ _)); exact BK279.out) hb)
         have n2_ := Aside0.mk (blk_below (g := gb280) (o := .cells #[.slice A1_0 l1_0.length c1_0, .slice (some ad305) l1_1.length c1_1, .int .i64 a1_2, .int .i64 a1_3, .int .i64 a1_4] 30 (0, 0)) (by (with_reducible repeat (first | refine blk_drewN ?_ _ | refine blk_drew ?_ | refine blk_alloc ?_ _)); exact BK280.out) hb)
         have n3_ := Aside0.mk (blk_below (g := gb291) (o := .cells #[.int .i64 ((rd_T46 ((rd_T44 l0_0 a2).f4) x9_1).f0), .int .i64 ((rd_T46 ((rd_T44 l0_0 a2).f4) x9_1).f1), .int .i64 ((rd_T46 ((rd_T44 l0_0 a2).f4) x9_1).f2), .int .i64 ((rd_T46 ((rd_T44 l0_0 a2).f4) x9_1).f3)] 46 (0, 0)) (by (with_reducible repeat (first | refine blk_drewN ?_ _ | refine blk_drew ?_ | refine blk_alloc ?_ _)); exact BK291.out) hb)
         have n4_ := Aside0.mk (blk_below (g := gb299) (o := .cells #[.int .i64 t293, .int .i64 t294, .int .i64 t295, .int .i64 t296, .int .i64 (Int.tmod (wrap64 ((wrap64 (65536 + (rd l1_1 ((rd_T46 ((rd_T44 l0_0 a2).f4) x9_1).f2)))) + ((rd_T46 ((rd_T44 l0_0 a2).f4) x9_1).f3))) 65536)] 49 (0, 0)) (by (with_reducible repeat (first | refine blk_drewN ?_ _ | refine blk_drew ?_ | refine blk_alloc ?_ _)); exact BK299.out) hb)
         have n5_ := Aside0.mk (below_step (by repeat (first | (with_reducible first | exact HB.out | apply below_alloc | apply pw_below_drewN | apply below_drew1 | refine below_set ?_ GE279.out | refine below_set ?_ GE280.out | refine below_set ?_ GE291.out | refine below_set ?_ GE299.out) | exact HB.out)) hb)
         clear HO_8
         clear BK279
         clear BK280
         clear BK291
         clear BK299
         clear HB
         have HO_8 := n0_
         have BK279 := n1_
         have BK280 := n2_
         have BK291 := n3_
         have BK299 := n4_
         have HB := n5_
         clear n0_ n1_ n2_ n3_ n4_ n5_
         (try clear hb)
         (try clear hb2)
         (try clear hk)
         (try clear hi)
         have p131 : 0 ≤ (((rd_T46 ((rd_T44 l0_0 a2).f4) x9_1).f0) : Int) := of_decide_eq_true (by first | (with_reducible assumption) | assumption)
         have q131 : (((rd_T46 ((rd_T44 l0_0 a2).f4) x9_1).f0) : Int) < ((x8_1.length : Int) : Int) := of_decide_eq_true (by first | (with_reducible assumption) | assumption)
         obtain ⟨go131, co131, eo131, gb131, gl131, cl131, HG131⟩ := Kd.R_form HO_8.out (by omega)
         (first | cases eo131 | (injection eo131 with ea_ en_ ec_; (first | subst ea_ | (injection ea_ with ea_; subst ea_)); subst ec_; clear en_))
         have GB131 := Aside0.mk gb131
         have GG131 := Aside0.mk HG131
         clear gb131 gl131 HG131
         (first | simp only [add_plain] at hx292_0 | skip)
         obtain ⟨hx131_0, hf131_0⟩ := Kd.R_celln 0 HO_8.out (((rd_T46 ((rd_T44 l0_0 a2).f4) x9_1).f0) : Int) p131 q131
         replace p131 := eq_true p131
         replace q131 := eq_true q131
         have HP142 := Kd.R_putn HO_8.out (((rd_T46 ((rd_T44 l0_0 a2).f4) x9_1).f0) : Int) t306
         rw [← Ny307.out] at HP142
         have HQ142 := Aside0.mk HP142
         clear HP142
         refine hK.out _ _ ⟨(blk_cell BK291.out 0).trans rfl, (blk_cell BK291.out 1).trans rfl, (blk_cell BK291.out 2).trans rfl, (blk_cell BK291.out 3).trans rfl, (blk_cell BK299.out 0).trans rfl, (blk_cell BK299.out 1).trans rfl, (blk_cell BK299.out 2).trans rfl, (blk_cell BK299.out 3).trans rfl, (blk_cell BK299.out 4).trans rfl⟩ (fun hHeld => ?_)
         clear hK K
         refine norm_ (a' := ?_) ?_ ?_
         rotate_left
         ·
          show Act.put _ (some 115) _ = _
          simp only [Act.put, List.setIfInBounds_toArray, List.set_cons_zero, List.set_cons_succ, i64_w, i32_w]
          rfl
         refine pure_ (i := 5) (N := some 116) (v := ?_) (a' := ?_) #[true, true, true, true, true, true, false] rfl rfl (by kernel_rfl) (fun _ _ _ h => h) (Or.inl ⟨by rfl, ?_⟩) ?_ ?_
         rotate_left
         ·
          intro w'
          go_simp
          with_reducible rfl
         rotate_left
         ·
          simp only [Act.put, List.setIfInBounds_toArray, List.set_cons_zero, List.set_cons_succ, i64_w, i32_w]
          rfl
         refine last_ (i := 6) (N := none) #[true, true, true, true, true, true, true] rfl rfl (by kernel_rfl) (by decide) (fun K hK => ?_)
         refine skip_ (w1 := ?_) (by rfl) rfl ?_ ?_
         rotate_left
         ·
          go_simp
          rfl
         refine hK.out _ _ ?_
         clear hK K
         refine done_ (by kernel_rfl) ?_
         try go_wp2
         go_roundg kj107
         case measure => have := HK1.out; have := HJ107.out; omega
         case rel => exact ⟨(y307), (wrap64 (x9_1 + 1)), (by first | rfl | (simp; done) | (simp [*]; done)), H', ⟨by have := HK1.out; have := HJ107.out; omega⟩, ⟨by (with_reducible repeat (first | apply Kd.R_alloc | apply Kd.R_drewN | apply Kd.R_drew)); exact HQ142.out⟩, ⟨by (with_reducible repeat (first | refine blk_drewN ?_ _ | refine blk_drew ?_ | refine blk_alloc ?_ _)); refine blk_far ?_ (by have h_ := Kd.R_ne HO_8.out BK279.out (by decide); intro e_; exact h_ (by rw [e_]; rfl)) _; (with_reducible repeat (first | refine blk_drewN ?_ _ | refine blk_drew ?_ | refine blk_alloc ?_ _)); exact BK279.out⟩, ⟨by (with_reducible repeat (first | refine blk_drewN ?_ _ | refine blk_drew ?_ | refine blk_alloc ?_ _)); refine blk_far ?_ (by have h_ := Kd.R_ne HO_8.out BK280.out (by decide); intro e_; exact h_ (by rw [e_]; rfl)) _; (with_reducible repeat (first | refine blk_drewN ?_ _ | refine blk_drew ?_ | refine blk_alloc ?_ _)); exact BK280.out⟩, ⟨by repeat (first | (with_reducible first | exact HB.out | apply below_alloc | apply pw_below_drewN | apply below_drew1 | refine below_set ?_ GB131.out | refine below_set ?_ GE279.out | refine below_set ?_ GE280.out | refine below_set ?_ GE291.out | refine below_set ?_ GE299.out) | exact HB.out)⟩⟩
        ·
         rw [if_neg c127] at H
         have c127b0 : (((rd_T46 ((rd_T44 l0_0 a2).f4) x9_1).f1) == 3) = false := beq_eq_false_iff_ne.mpr c127
         have c127b1 : (((rd_T46 ((rd_T44 l0_0 a2).f4) x9_1).f1) != 3) = true := bne_iff_ne.mpr c127
         replace H := Option.bind_eq_some_iff.mp H
         obtain ⟨t308, A1430, H⟩ := H
         try dsimp only at H
         have A143 := Aside0.mk A1430
         clear A1430
         by_cases c144 : 0 ≤ ((rd_T46 ((rd_T44 l0_0 a2).f4) x9_1).f0)
         case neg =>
          rw [if_neg c144] at H
          exact absurd H (by simp)
         rw [if_pos c144] at H
         have c144b0 : decide (0 ≤ ((rd_T46 ((rd_T44 l0_0 a2).f4) x9_1).f0)) = true := decide_eq_true c144
         clear c144
         by_cases c145 : ((rd_T46 ((rd_T44 l0_0 a2).f4) x9_1).f0) < (x8_1.length : Int)
         case neg =>
          rw [if_neg c145] at H
          exact absurd H (by simp)
         rw [if_pos c145] at H
         have c145b0 : decide (((rd_T46 ((rd_T44 l0_0 a2).f4) x9_1).f0) < (x8_1.length : Int)) = true := decide_eq_true c145
         clear c145
         obtain ⟨y309, hy309⟩ : ∃ y_ : List Int, y_ = (x8_1.set (((rd_T46 ((rd_T44 l0_0 a2).f4) x9_1).f0) : Int).toNat t308) := ⟨_, rfl⟩
         (first | rw [Option.bind_some, ← hy309] at H | rw [← hy309] at H | skip)
         have Ny309 := Aside0.mk hy309
         clear hy309
         have H' := Aside0.mk H
         clear H
         have hnb147 := NB299_279.out
         have hnc147 := NB279_299.out
         have hnb148 := NB299_280.out
         have hnc148 := NB280_299.out
         have hnb149 := NB299_291.out
         have hnc149 := NB291_299.out
         obtain ⟨hcz150_0, hcz150_1, hcz150_2, hcz150_3, hcz150_4⟩ := blkc40_5 BK299.out
         obtain ⟨hfz150_0, hfz150_1, hfz150_2, hfz150_3, hfz150_4⟩ := blkf40_5 BK299.out
         have hnb151 := NB291_279.out
         have hnc151 := NB279_291.out
         have hnb152 := NB291_280.out
         have hnc152 := NB280_291.out
         have hcz153_0 : wc.cell? ⟨gb291, 0, none⟩ = some (.int .i64 ((rd_T46 ((rd_T44 l0_0 a2).f4) x9_1).f0)) := (blk_cell BK291.out 0).trans rfl
         have hcz153_1 : wc.cell? ⟨gb291, 1, none⟩ = some (.int .i64 ((rd_T46 ((rd_T44 l0_0 a2).f4) x9_1).f1)) := (blk_cell BK291.out 1).trans rfl
         have hcz153_2 : wc.cell? ⟨gb291, 2, none⟩ = some (.int .i64 ((rd_T46 ((rd_T44 l0_0 a2).f4) x9_1).f2)) := (blk_cell BK291.out 2).trans rfl
         have hcz153_3 : wc.cell? ⟨gb291, 3, none⟩ = some (.int .i64 ((rd_T46 ((rd_T44 l0_0 a2).f4) x9_1).f3)) := (blk_cell BK291.out 3).trans rfl
         obtain ⟨hfz153_0, hfz153_1, hfz153_2, hfz153_3⟩ := blkf40_4 BK291.out
         try go_wp2
         obtain ⟨w154, hw154_⟩ : ∃ w_ : World, w_ = (wc.setCell ⟨gb299, 4, none⟩ (.int .i64 (wrap64 (Int.tdiv (wrap64 ((wrap64 (65536 + (rd l1_1 ((rd_T46 ((rd_T44 l0_0 a2).f4) x9_1).f2)))) + ((rd_T46 ((rd_T44 l0_0 a2).f4) x9_1).f3))) 65536)))) := ⟨_, rfl⟩
         have n0_ : Aside0 (Kd.R (Kd.int .u32) 47 w154 w.heap.size (fun _ => True) (.slice (some ad292) x8_1.length co115) x8_1) := ⟨by rw [hw154_]; (with_reducible repeat (first | apply Kd.R_alloc | apply Kd.R_drewN | apply Kd.R_drew)); exact Kd.R_mono (Kd.R_far (p := ⟨gb299, 4, none⟩) (Kd.R_types HO_8.out BK299.out (by decide)) (fun _ hk => hk.2) (.int .i64 (wrap64 (Int.tdiv (wrap64 ((wrap64 (65536 + (rd l1_1 ((rd_T46 ((rd_T44 l0_0 a2).f4) x9_1).f2)))) + ((rd_T46 ((rd_T44 l0_0 a2).f4) x9_1).f3))) 65536)))) (fun _ hk => trivial)⟩
         have n1_ : Aside0 (w154.heap[gb279]? = some (.cells #[.slice (some ad284) l0_0.length c0_0, .slice A0_1 l0_1.length c0_1, .int .i64 a0_2] 25 (0, 0))) := ⟨by rw [hw154_]; (with_reducible repeat (first | refine blk_drewN ?_ _ | refine blk_drew ?_ | refine blk_alloc ?_ _)); refine blk_far ?_ NB279_299.out _; (with_reducible repeat (first | refine blk_drewN ?_ _ | refine blk_drew ?_ | refine blk_alloc ?_ _)); exact BK279.out⟩
         have n2_ : Aside0 (w154.heap[gb280]? = some (.cells #[.slice A1_0 l1_0.length c1_0, .slice (some ad305) l1_1.length c1_1, .int .i64 a1_2, .int .i64 a1_3, .int .i64 a1_4] 30 (0, 0))) := ⟨by rw [hw154_]; (with_reducible repeat (first | refine blk_drewN ?_ _ | refine blk_drew ?_ | refine blk_alloc ?_ _)); refine blk_far ?_ NB280_299.out _; (with_reducible repeat (first | refine blk_drewN ?_ _ | refine blk_drew ?_ | refine blk_alloc ?_ _)); exact BK280.out⟩
         have n3_ : Aside0 (w154.heap[gb291]? = some (.cells #[.int .i64 ((rd_T46 ((rd_T44 l0_0 a2).f4) x9_1).f0), .int .i64 ((rd_T46 ((rd_T44 l0_0 a2).f4) x9_1).f1), .int .i64 ((rd_T46 ((rd_T44 l0_0 a2).f4) x9_1).f2), .int .i64 ((rd_T46 ((rd_T44 l0_0 a2).f4) x9_1).f3)] 46 (0, 0))) := ⟨by rw [hw154_]; (with_reducible repeat (first | refine blk_drewN ?_ _ | refine blk_drew ?_ | refine blk_alloc ?_ _)); refine blk_far ?_ NB291_299.out _; (with_reducible repeat (first | refine blk_drewN ?_ _ | refine blk_drew ?_ | refine blk_alloc ?_ _)); exact BK291.out⟩
         have n4_ : Aside0 (w154.heap[gb299]? = some (.cells #[.int .i64 t293, .int .i64 t294, .int .i64 t295, .int .i64 t296, .int .i64 (wrap64 (Int.tdiv (wrap64 ((wrap64 (65536 + (rd l1_1 ((rd_T46 ((rd_T44 l0_0 a2).f4) x9_1).f2)))) + ((rd_T46 ((rd_T44 l0_0 a2).f4) x9_1).f3))) 65536))] 49 (0, 0))) := ⟨by rw [hw154_]; (with_reducible repeat (first | refine blk_drewN ?_ _ | refine blk_drew ?_ | refine blk_alloc ?_ _)); refine blk_put (cs := #[.int .i64 t293, .int .i64 t294, .int .i64 t295, .int .i64 t296, .int .i64 t297]) ?_ 4 _ rfl; (with_reducible repeat (first | refine blk_drewN ?_ _ | refine blk_drew ?_ | refine blk_alloc ?_ _)); exact BK299.out⟩
         have n5_ : Aside0 (Below w.heap.size w w154) := ⟨by rw [hw154_]; repeat (first | (with_reducible first | exact HB.out | apply below_alloc | apply pw_below_drewN | apply below_drew1 | refine below_set ?_ GE279.out | refine below_set ?_ GE280.out | refine below_set ?_ GE291.out | refine below_set ?_ GE299.out) | exact HB.out)⟩
         (try clear HO_8)
         (try clear BK279)
         (try clear BK280)
         (try clear BK291)
         (try clear BK299)
         (try clear HB)
         (try rw [← hw154_])
         clear hw154_
         have HO_8 := n0_
         have BK279 := n1_
         have BK280 := n2_
         have BK291 := n3_
         have BK299 := n4_
         have HB := n5_
         clear n0_ n1_ n2_ n3_ n4_ n5_
         have n0_ := Aside0.mk (Kd.R_drew HO_8.out)
         have n1_ := Aside0.mk (blk_drew BK279.out)
         have n2_ := Aside0.mk (blk_drew BK280.out)
         have n3_ := Aside0.mk (blk_drew BK291.out)
         have n4_ := Aside0.mk (blk_drew BK299.out)
         have n5_ := Aside0.mk (below_drew1 HB.out)
         clear HO_8
         clear BK279
         clear BK280
         clear BK291
         clear BK299
         clear HB
         have HO_8 := n0_
         have BK279 := n1_
         have BK280 := n2_
         have BK291 := n3_
         have BK299 := n4_
         have HB := n5_
         clear n0_ n1_ n2_ n3_ n4_ n5_
         refine start_ (n := 7) (S := fun w' => w'.cell? ⟨gb291, 0, none⟩ = some (.int .i64 ((rd_T46 ((rd_T44 l0_0 a2).f4) x9_1).f0)) ∧ w'.cell? ⟨gb291, 1, none⟩ = some (.int .i64 ((rd_T46 ((rd_T44 l0_0 a2).f4) x9_1).f1)) ∧ w'.cell? ⟨gb291, 2, none⟩ = some (.int .i64 ((rd_T46 ((rd_T44 l0_0 a2).f4) x9_1).f2)) ∧ w'.cell? ⟨gb291, 3, none⟩ = some (.int .i64 ((rd_T46 ((rd_T44 l0_0 a2).f4) x9_1).f3)) ∧ w'.cell? ⟨gb299, 0, none⟩ = some (.int .i64 t293) ∧ w'.cell? ⟨gb299, 1, none⟩ = some (.int .i64 t294) ∧ w'.cell? ⟨gb299, 2, none⟩ = some (.int .i64 t295) ∧ w'.cell? ⟨gb299, 3, none⟩ = some (.int .i64 t296) ∧ w'.cell? ⟨gb299, 4, none⟩ = some (.int .i64 (wrap64 (Int.tdiv (wrap64 ((wrap64 (65536 + (rd l1_1 ((rd_T46 ((rd_T44 l0_0 a2).f4) x9_1).f2)))) + ((rd_T46 ((rd_T44 l0_0 a2).f4) x9_1).f3))) 65536)))) (ds := [6]) #[false, false, false, false, false, false, false] (by kernel_rfl) rfl rfl ⟨(blk_cell BK291.out 0).trans rfl, (blk_cell BK291.out 1).trans rfl, (blk_cell BK291.out 2).trans rfl, (blk_cell BK291.out 3).trans rfl, (blk_cell BK299.out 0).trans rfl, (blk_cell BK299.out 1).trans rfl, (blk_cell BK299.out 2).trans rfl, (blk_cell BK299.out 3).trans rfl, (blk_cell BK299.out 4).trans rfl⟩ (fun hHeld => ?_)
         generalize w154.drew = w155 at HO_8 BK279 BK280 BK291 BK299 HB hHeld ⊢
         refine pure_ (i := 0) (N := some 111) (v := ?_) (a' := ?_) #[true, false, false, false, false, false, false] rfl rfl (by kernel_rfl) (fun _ _ _ h => h) (Or.inl ⟨by rfl, ?_⟩) ?_ ?_
         rotate_left
         ·
          intro w'
          go_simp
          with_reducible rfl
         rotate_left
         ·
          simp only [Act.put, List.setIfInBounds_toArray, List.set_cons_zero, List.set_cons_succ, i64_w, i32_w]
          rfl
         refine pure_ (i := 1) (N := some 112) (v := ?_) (a' := ?_) #[true, true, false, false, false, false, false] rfl rfl (by kernel_rfl) (fun _ _ _ h => h) (Or.inl ⟨by rfl, ?_⟩) ?_ ?_
         rotate_left
         ·
          intro w'
          go_simp
          with_reducible rfl
         rotate_left
         ·
          simp only [Act.put, List.setIfInBounds_toArray, List.set_cons_zero, List.set_cons_succ, i64_w, i32_w]
          rfl
         refine take_ (i := 2) (N := some 113) (v := ?_) (a' := ?_) #[true, true, true, false, false, false, false] rfl rfl (by kernel_rfl) (fun _ _ _ h => h) (Or.inl ⟨by rfl, ?_⟩) hHeld ?_ ?_
         rotate_left
         ·
          rintro w' ⟨s0, s1, s2, s3, s4, s5, s6, s7, s8⟩
          go_simp
          with_reducible rfl
         rotate_left
         ·
          simp only [Act.put, List.setIfInBounds_toArray, List.set_cons_zero, List.set_cons_succ, i64_w, i32_w]
          rfl
         refine take_ (i := 3) (N := some 114) (v := ?_) (a' := ?_) #[true, true, true, true, false, false, false] rfl rfl (by kernel_rfl) (fun _ _ _ h => h) (Or.inl ⟨by rfl, ?_⟩) hHeld ?_ ?_
         rotate_left
         ·
          rintro w' ⟨s0, s1, s2, s3, s4, s5, s6, s7, s8⟩
          go_simp
          with_reducible rfl
         rotate_left
         ·
          simp only [Act.put, List.setIfInBounds_toArray, List.set_cons_zero, List.set_cons_succ, i64_w, i32_w]
          rfl
         refine one_ (i := 4) (N := some 115) #[true, true, true, true, true, false, false] rfl rfl (by kernel_rfl) (by decide) (fun K hK => ?_)
         refine goes_ Try.func29 (by kernel_rfl) rfl #[.agg #[.int .i64 t293, .int .i64 t294, .int .i64 t295, .int .i64 t296, .int .i64 (wrap64 (Int.tdiv (wrap64 ((wrap64 (65536 + (rd l1_1 ((rd_T46 ((rd_T44 l0_0 a2).f4) x9_1).f2)))) + ((rd_T46 ((rd_T44 l0_0 a2).f4) x9_1).f3))) 65536))]] (by rfl) rfl rfl (by (try simp only [List.map_toArray, List.map_cons, List.map_nil]); first | done | rfl | (simp only [List.length_drop, List.length_take]; rfl)) ?_
         with_reducible refine (spliceref02_Put.calls kj107 t293 t294 t295 t296 (wrap64 (Int.tdiv (wrap64 ((wrap64 (65536 + (rd l1_1 ((rd_T46 ((rd_T44 l0_0 a2).f4) x9_1).f2)))) + ((rd_T46 ((rd_T44 l0_0 a2).f4) x9_1).f3))) 65536)) t308 _ A143.out).mono ?_
         rintro e w156 ⟨rfl, hb⟩
         refine ⟨_, rfl, ?_⟩
         have n0_ := Aside0.mk (Kd.R_below (by (with_reducible repeat (first | apply Kd.R_alloc | apply Kd.R_drewN | apply Kd.R_drew)); exact HO_8.out) hb)
         have n1_ := Aside0.mk (blk_below (g := gb279) (o := .cells #[.slice (some ad284) l0_0.length c0_0, .slice A0_1 l0_1.length c0_1, .int .i64 a0_2] 25 (0, 0)) (by (with_reducible repeat (first | refine blk_drewN ?_ _ | refine blk_drew ?_ | refine blk_alloc ?_ _)); exact BK279.out) hb)
         have n2_ := Aside0.mk (blk_below (g := gb280) (o := .cells #[.slice A1_0 l1_0.length c1_0, .slice (some ad305) l1_1.length c1_1, .int .i64 a1_2, .int .i64 a1_3, .int .i64 a1_4] 30 (0, 0)) (by (with_reducible repeat (first | refine blk_drewN ?_ _ | refine blk_drew ?_ | refine blk_alloc ?_ _)); exact BK280.out) hb)
         have n3_ := Aside0.mk (blk_below (g := gb291) (o := .cells #[.int .i64 ((rd_T46 ((rd_T44 l0_0 a2).f4) x9_1).f0), .int .i64 ((rd_T46 ((rd_T44 l0_0 a2).f4) x9_1).f1), .int .i64 ((rd_T46 ((rd_T44 l0_0 a2).f4) x9_1).f2), .int .i64 ((rd_T46 ((rd_T44 l0_0 a2).f4) x9_1).f3)] 46 (0, 0)) (by (with_reducible repeat (first | refine blk_drewN ?_ _ | refine blk_drew ?_ | refine blk_alloc ?_ _)); exact BK291.out) hb)
         have n4_ := Aside0.mk (blk_below (g := gb299) (o := .cells #[.int .i64 t293, .int .i64 t294, .int .i64 t295, .int .i64 t296, .int .i64 (wrap64 (Int.tdiv (wrap64 ((wrap64 (65536 + (rd l1_1 ((rd_T46 ((rd_T44 l0_0 a2).f4) x9_1).f2)))) + ((rd_T46 ((rd_T44 l0_0 a2).f4) x9_1).f3))) 65536))] 49 (0, 0)) (by (with_reducible repeat (first | refine blk_drewN ?_ _ | refine blk_drew ?_ | refine blk_alloc ?_ _)); exact BK299.out) hb)
         have n5_ := Aside0.mk (below_step (by repeat (first | (with_reducible first | exact HB.out | apply below_alloc | apply pw_below_drewN | apply below_drew1 | refine below_set ?_ GE279.out | refine below_set ?_ GE280.out | refine below_set ?_ GE291.out | refine below_set ?_ GE299.out) | exact HB.out)) hb)
         clear HO_8
         clear BK279
         clear BK280
         clear BK291
         clear BK299
         clear HB
         have HO_8 := n0_
         have BK279 := n1_
         have BK280 := n2_
         have BK291 := n3_
         have BK299 := n4_
         have HB := n5_
         clear n0_ n1_ n2_ n3_ n4_ n5_
         (try clear hb)
         (try clear hb2)
         (try clear hk)
         (try clear hi)
         have p146 : 0 ≤ (((rd_T46 ((rd_T44 l0_0 a2).f4) x9_1).f0) : Int) := of_decide_eq_true (by first | (with_reducible assumption) | assumption)
         have q146 : (((rd_T46 ((rd_T44 l0_0 a2).f4) x9_1).f0) : Int) < ((x8_1.length : Int) : Int) := of_decide_eq_true (by first | (with_reducible assumption) | assumption)
         obtain ⟨go146, co146, eo146, gb146, gl146, cl146, HG146⟩ := Kd.R_form HO_8.out (by omega)
         (first | cases eo146 | (injection eo146 with ea_ en_ ec_; (first | subst ea_ | (injection ea_ with ea_; subst ea_)); subst ec_; clear en_))
         have GB146 := Aside0.mk gb146
         have GG146 := Aside0.mk HG146
         clear gb146 gl146 HG146
         obtain ⟨hx146_0, hf146_0⟩ := Kd.R_celln 0 HO_8.out (((rd_T46 ((rd_T44 l0_0 a2).f4) x9_1).f0) : Int) p146 q146
         replace p146 := eq_true p146
         replace q146 := eq_true q146
         have HP157 := Kd.R_putn HO_8.out (((rd_T46 ((rd_T44 l0_0 a2).f4) x9_1).f0) : Int) t308
         rw [← Ny309.out] at HP157
         have HQ157 := Aside0.mk HP157
         clear HP157
         refine hK.out _ _ ⟨(blk_cell BK291.out 0).trans rfl, (blk_cell BK291.out 1).trans rfl, (blk_cell BK291.out 2).trans rfl, (blk_cell BK291.out 3).trans rfl, (blk_cell BK299.out 0).trans rfl, (blk_cell BK299.out 1).trans rfl, (blk_cell BK299.out 2).trans rfl, (blk_cell BK299.out 3).trans rfl, (blk_cell BK299.out 4).trans rfl⟩ (fun hHeld => ?_)
         clear hK K
         refine norm_ (a' := ?_) ?_ ?_
         rotate_left
         ·
          show Act.put _ (some 115) _ = _
          simp only [Act.put, List.setIfInBounds_toArray, List.set_cons_zero, List.set_cons_succ, i64_w, i32_w]
          rfl
         refine pure_ (i := 5) (N := some 116) (v := ?_) (a' := ?_) #[true, true, true, true, true, true, false] rfl rfl (by kernel_rfl) (fun _ _ _ h => h) (Or.inl ⟨by rfl, ?_⟩) ?_ ?_
         rotate_left
         ·
          intro w'
          go_simp
          with_reducible rfl
         rotate_left
         ·
          simp only [Act.put, List.setIfInBounds_toArray, List.set_cons_zero, List.set_cons_succ, i64_w, i32_w]
          rfl
         refine last_ (i := 6) (N := none) #[true, true, true, true, true, true, true] rfl rfl (by kernel_rfl) (by decide) (fun K hK => ?_)
         refine skip_ (w1 := ?_) (by rfl) rfl ?_ ?_
         rotate_left
         ·
          go_simp
          rfl
         refine hK.out _ _ ?_
         clear hK K
         refine done_ (by kernel_rfl) ?_
         try go_wp2
         go_roundg kj107
         case measure => have := HK1.out; have := HJ107.out; omega
         case rel => exact ⟨(y309), (wrap64 (x9_1 + 1)), (by first | rfl | (simp; done) | (simp [*]; done)), H', ⟨by have := HK1.out; have := HJ107.out; omega⟩, ⟨by (with_reducible repeat (first | apply Kd.R_alloc | apply Kd.R_drewN | apply Kd.R_drew)); exact HQ157.out⟩, ⟨by (with_reducible repeat (first | refine blk_drewN ?_ _ | refine blk_drew ?_ | refine blk_alloc ?_ _)); refine blk_far ?_ (by have h_ := Kd.R_ne HO_8.out BK279.out (by decide); intro e_; exact h_ (by rw [e_]; rfl)) _; (with_reducible repeat (first | refine blk_drewN ?_ _ | refine blk_drew ?_ | refine blk_alloc ?_ _)); exact BK279.out⟩, ⟨by (with_reducible repeat (first | refine blk_drewN ?_ _ | refine blk_drew ?_ | refine blk_alloc ?_ _)); refine blk_far ?_ (by have h_ := Kd.R_ne HO_8.out BK280.out (by decide); intro e_; exact h_ (by rw [e_]; rfl)) _; (with_reducible repeat (first | refine blk_drewN ?_ _ | refine blk_drew ?_ | refine blk_alloc ?_ _)); exact BK280.out⟩, ⟨by repeat (first | (with_reducible first | exact HB.out | apply below_alloc | apply pw_below_drewN | apply below_drew1 | refine below_set ?_ GB146.out | refine below_set ?_ GE279.out | refine below_set ?_ GE280.out | refine below_set ?_ GE291.out | refine below_set ?_ GE299.out) | exact HB.out)⟩⟩
   ·
    rw [if_neg c16] at H
    have c16b0 : decide (x9_1 < (((rd_T44 l0_0 a2).f4).length : Int)) = false := decide_eq_false c16
    clear c16
    simp only [Option.some.injEq, Prod.mk.injEq] at H
    obtain ⟨rfl, rfl⟩ := H
    have hnb158 := NB279_280.out
    have hnc158 := NB280_279.out
    obtain ⟨hcz159_0, hcz159_1, hcz159_2⟩ := blkc40_3 BK279.out
    obtain ⟨hfz159_0, hfz159_1, hfz159_2⟩ := blkf40_3 BK279.out
    have p288 : 0 ≤ (a2 : Int) := of_decide_eq_true (by first | (with_reducible assumption) | assumption)
    have q288 : a2 < (l0_0.length : Int) := of_decide_eq_true (by first | (with_reducible assumption) | assumption)
    obtain ⟨ad288, A288_3, c288_3, A288_4, c288_4, e288, hx288_0, hx288_1, hx288_2, hx288_3, hx288_4, hl288_3, hi288_3, hl288_4, hi288_4⟩ := at_T44 HR0_0.out a2 p288 q288
    obtain rfl : ad284 = ad288 := (by injection e288)
    replace hx288_0 := (HB.out.cell (World.block_lt_of_cell? w _ hx288_0)).trans hx288_0
    replace hx288_1 := (HB.out.cell (World.block_lt_of_cell? w _ hx288_1)).trans hx288_1
    replace hx288_2 := (HB.out.cell (World.block_lt_of_cell? w _ hx288_2)).trans hx288_2
    replace hx288_3 := (HB.out.cell (World.block_lt_of_cell? w _ hx288_3)).trans hx288_3
    replace hx288_4 := (HB.out.cell (World.block_lt_of_cell? w _ hx288_4)).trans hx288_4
    have HR288_3 := Aside0.mk hi288_3
    have HC288_3 := Aside0.mk hl288_3
    clear hi288_3 hl288_3
    have HR288_4 := Aside0.mk hi288_4
    have HC288_4 := Aside0.mk hl288_4
    clear hi288_4 hl288_4
    replace p288 := eq_true p288
    replace q288 := eq_true q288
    go_wp2
    go_ret2
    exact ⟨_, by first | rfl | (simp [errW_none, errW_some] <;> rfl) | (simp [*, errW_none, errW_some] <;> rfl), by (with_reducible repeat (first | apply Kd.R_alloc | apply Kd.R_drewN | apply Kd.R_drew)); exact HO_8.out, by repeat (first | (with_reducible first | exact HB.out | apply below_alloc | apply pw_below_drewN | apply below_drew1 | refine below_set ?_ GE279.out | refine below_set ?_ GE280.out) | exact HB.out)⟩
end Go.Proofs.Ytdnfofhfllnhiaa.Q
