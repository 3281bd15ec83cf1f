-- Written by drv.py, a program of this session, over the kit's print, out of the translation. Not trusted: Lean checks it.
import Derived.Test.YtdnfofhfllnhiaaQD0
import Derived.Test.YtdnfofhfllnhiaaQA
import Derived.Test.YtdnfofhfllnhiaaQG
import Derived.Test.YtdnfofhfllnhiaaQP
import Derived.Test.YtdnfofhfllnhiaaHcl
namespace Go.Proofs.Ytdnfofhfllnhiaa.Q
open Go.RowKit Go.Proofs.YtdnfofhfllnhiaaW.PrintWords Go.Proofs.YtdnfofhfllnhiaaW.PrintLast Go.Proofs.YtdnfofhfllnhiaaW.PrintMore
attribute [local go_sem] max2_int min2_int max_two min_two max_three min_three max_four min_four   -- for this text's walks alone
set_option linter.unusedVariables false
set_option linter.unusedSimpArgs false

def patch_Code.T5 : Bool × List (List Nat × List Nat) := (true, [([], []), ([], []), ([1], [1]), ([], []), ([2, 3], [2, 3]), ([4], [4]), ([], []), ([0, 5, 6], [0, 5, 6]), ([7], [7]), ([8], [8]), ([8], [8]), ([9, 7, 0, 1, 2, 3, 4, 5, 6, 7, 8, 9], [9]), ([10, 11, 0, 1, 2, 3, 4, 5, 6, 7, 8, 9, 10, 11], [10])])
def patch_Code.B5 : List Nat := [0, 0, 2, 0, 14, 30, 0, 127, 255, 511, 511, 1023, 4095]
theorem blkc19_3 {w : World} {g : Nat} {t : TypeId} {v0 v1 v2 : Value} (h : w.heap[g]? = some (.cells #[v0, v1, v2] t (0, 0))) : w.cell? ⟨g, 0, none⟩ = some v0 ∧ w.cell? ⟨g, 1, none⟩ = some v1 ∧ w.cell? ⟨g, 2, none⟩ = some v2 := ⟨(blk_cell h 0).trans rfl, (blk_cell h 1).trans rfl, (blk_cell h 2).trans rfl⟩
theorem blkc19_4 {w : World} {g : Nat} {t : TypeId} {v0 v1 v2 v3 : Value} (h : w.heap[g]? = some (.cells #[v0, v1, v2, v3] t (0, 0))) : w.cell? ⟨g, 0, none⟩ = some v0 ∧ w.cell? ⟨g, 1, none⟩ = some v1 ∧ w.cell? ⟨g, 2, none⟩ = some v2 ∧ w.cell? ⟨g, 3, none⟩ = some v3 := ⟨(blk_cell h 0).trans rfl, (blk_cell h 1).trans rfl, (blk_cell h 2).trans rfl, (blk_cell h 3).trans rfl⟩
theorem blkc19_5 {w : World} {g : Nat} {t : TypeId} {v0 v1 v2 v3 v4 : Value} (h : w.heap[g]? = some (.cells #[v0, v1, v2, v3, v4] t (0, 0))) : w.cell? ⟨g, 0, none⟩ = some v0 ∧ w.cell? ⟨g, 1, none⟩ = some v1 ∧ w.cell? ⟨g, 2, none⟩ = some v2 ∧ w.cell? ⟨g, 3, none⟩ = some v3 ∧ w.cell? ⟨g, 4, none⟩ = some v4 := ⟨(blk_cell h 0).trans rfl, (blk_cell h 1).trans rfl, (blk_cell h 2).trans rfl, (blk_cell h 3).trans rfl, (blk_cell h 4).trans rfl⟩
theorem blkf19_3 {w : World} {g : Nat} {t : TypeId} {cs : Array Value} (h : w.heap[g]? = some (.cells cs t (0, 0))) : w.frozen? ⟨g, 0, none⟩ = false ∧ w.frozen? ⟨g, 1, none⟩ = false ∧ w.frozen? ⟨g, 2, none⟩ = false := ⟨blk_frozen h 0, blk_frozen h 1, blk_frozen h 2⟩
theorem blkf19_4 {w : World} {g : Nat} {t : TypeId} {cs : Array Value} (h : w.heap[g]? = some (.cells cs t (0, 0))) : w.frozen? ⟨g, 0, none⟩ = false ∧ w.frozen? ⟨g, 1, none⟩ = false ∧ w.frozen? ⟨g, 2, none⟩ = false ∧ w.frozen? ⟨g, 3, none⟩ = false := ⟨blk_frozen h 0, blk_frozen h 1, blk_frozen h 2, blk_frozen h 3⟩
theorem blkf19_5 {w : World} {g : Nat} {t : TypeId} {cs : Array Value} (h : w.heap[g]? = some (.cells cs t (0, 0))) : w.frozen? ⟨g, 0, none⟩ = false ∧ w.frozen? ⟨g, 1, none⟩ = false ∧ w.frozen? ⟨g, 2, none⟩ = false ∧ w.frozen? ⟨g, 3, none⟩ = false ∧ w.frozen? ⟨g, 4, none⟩ = false := ⟨blk_frozen h 0, blk_frozen h 1, blk_frozen h 2, blk_frozen h 3, blk_frozen h 4⟩
theorem patch_Code.tab5 : rtab .any (opsOf Try.f11 5) = patch_Code.T5 := by kernel_rfl
theorem patch_Code.bits5 : waitsOk patch_Code.T5.2 patch_Code.B5 = true := by kernel_rfl
def patch_Code.T10 : Bool × List (List Nat × List Nat) := (true, [([], []), ([], []), ([1], [1]), ([], []), ([3], [3]), ([4], [4]), ([5], [5]), ([5], [5]), ([0, 2, 0, 1, 2, 3, 4, 5, 6], [0, 2]), ([8, 6, 4, 0, 1, 2, 3, 4, 5, 6], [6, 8]), ([7, 9, 0, 1, 2, 3, 4, 5, 6, 7, 8, 9], [7])])
def patch_Code.B10 : List Nat := [0, 0, 2, 0, 8, 24, 56, 56, 127, 383, 1023]
theorem patch_Code.tab10 : rtab .any (opsOf Try.f11 10) = patch_Code.T10 := by kernel_rfl
theorem patch_Code.bits10 : waitsOk patch_Code.T10.2 patch_Code.B10 = true := by kernel_rfl
set_option maxHeartbeats 8000000 in
set_option maxRecDepth 100000 in
theorem patch_Code.calls (k : Nat) (A0_0 : Option Addr) (c0_0 : Nat) (l0_0 : List (S44)) (A0_1 : Option Addr) (c0_1 : Nat) (l0_1 : List (S55)) (a0_2 : Int) (A1_0 : Option Addr) (c1_0 : Nat) (l1_0 : List Int) (A1_1 : Option Addr) (c1_1 : Nat) (l1_1 : List Int) (a1_2 : Int) (a1_3 : Int) (a1_4 : Int) (a2 : Int) (r1 : List Int) (r2 : Int) (w : World) (hr0_0 : Kd.C k44 w A0_0 l0_0.length l0_0) (hc0_0 : l0_0.length ≤ c0_0) (hr0_1 : Kd.C k55 w A0_1 l0_1.length l0_1) (hc0_1 : l0_1.length ≤ c0_1) (hr1_0 : Kd.C (Kd.int .i64) w A1_0 l1_0.length l1_0) (hc1_0 : l1_0.length ≤ c1_0) (hr1_1 : Kd.C (Kd.int .i64) w A1_1 l1_1.length l1_1) (hc1_1 : l1_1.length ≤ c1_1) (h : patch_Code.f k l0_0 l0_1 a0_2 l1_0 l1_1 a1_2 a1_3 a1_4 a2 = some (r1, r2)) :
    Calls Try.prog 11 #[.agg #[.slice A0_0 l0_0.length c0_0, .slice A0_1 l0_1.length c0_1, .int .i64 a0_2], .agg #[.slice A1_0 l1_0.length c1_0, .slice A1_1 l1_1.length c1_1, .int .i64 a1_2, .int .i64 a1_3, .int .i64 a1_4], .int .i64 a2] w fun e w' => ∃ v0_ : Value, e = .returned (.tuple #[v0_, .int .i64 r2]) ∧ Kd.R (Kd.int .u32) 47 w' w.heap.size (fun _ => True) v0_ r1 ∧ Below w.heap.size w w' := by
 have hu25 := Try.underlying25
 have hu30 := Try.underlying30
 have hu46 := Try.underlying46
 have hu49 := Try.underlying49
 have HR0_0 := Aside0.mk hr0_0
 have HC0_0 := Aside0.mk hc0_0
 clear hr0_0 hc0_0
 have HR0_1 := Aside0.mk hr0_1
 have HC0_1 := Aside0.mk hc0_1
 clear hr0_1 hc0_1
 have HR1_0 := Aside0.mk hr1_0
 have HC1_0 := Aside0.mk hc1_0
 clear hr1_0 hc1_0
 have HR1_1 := Aside0.mk hr1_1
 have HC1_1 := Aside0.mk hc1_1
 clear hr1_1 hc1_1
 have HB := Aside0.mk (Below.refl w.heap.size w)
 have H : (if 0 ≤ a2 then (if a2 < (l0_0.length : Int) then ((slices_Clone_uint32_uint32.f ((rd_T44 l0_0 a2).f3)).bind fun t167 => (patch_Code.l0 k a2 t167 ((rd_T44 l0_0 a2).f4) (((rd_T44 l0_0 a2).f4).length : Int) 0 l1_0 l1_1 a1_2 a1_3 a1_4)) else (none)) else (none)) = some (r1, r2) := h
 clear h
 by_cases c4 : 0 ≤ a2
 case neg =>
  rw [if_neg c4] at H
  exact absurd H (by simp)

 rw [if_pos c4] at H
 have c4b0 : decide (0 ≤ a2) = true := decide_eq_true c4
 clear c4
 by_cases c5 : a2 < (l0_0.length : Int)
 case neg =>
  rw [if_neg c5] at H
  exact absurd H (by simp)
 rw [if_pos c5] at H
 have c5b0 : decide (a2 < (l0_0.length : Int)) = true := decide_eq_true c5
 clear c5
 replace H := Option.bind_eq_some_iff.mp H
 obtain ⟨t167, A60, H⟩ := H
 try dsimp only at H
 have A6 := Aside0.mk A60
 clear A60
 have H' := Aside0.mk H
 clear H
 go_enter Try.func11, Try.ntmps11
 go_wp2_with (first | ((with_reducible refine gate_dst (N := 3) rfl ?_); refine box_event ?hg (N := 3) ?hd (cs := #[.slice A0_0 l0_0.length c0_0, .slice A0_1 l0_1.length c0_1, .int .i64 a0_2]) (t := 25) ?hr ?_; (case hd => rfl); (case hg => rfl); (case hr => first | (go_simp; done) | (go_simp; rfl)); intro gb164 hg w7 hbox hb; have n0_ := Aside0.mk (below_step (by apply_rules (transparency := .reducible) only [HB.out, below_alloc, pw_below_drewN, below_drew1]) hb); have n1_ := Aside0.mk (hbox); have n2_ := Aside0.mk ((by rw [hg]; exact (below_size (by apply_rules (transparency := .reducible) only [HB.out, below_alloc, pw_below_drewN, below_drew1])) : w.heap.size ≤ gb164)); have n3_ := Aside0.mk ((by rw [hg]; exact (below_size (by apply_rules (transparency := .reducible) only [HB.out, below_alloc, pw_below_drewN, below_drew1])) : w.heap.size ≤ gb164)); clear HB; have HB := n0_; have BK164 := n1_; have GW164 := n2_; have GE164 := n3_; clear n0_ n1_ n2_ n3_; clear hb hbox hg) | ((with_reducible refine gate_dst (N := 4) rfl ?_); refine box_event ?hg (N := 4) ?hd (cs := #[.slice A1_0 l1_0.length c1_0, .slice A1_1 l1_1.length c1_1, .int .i64 a1_2, .int .i64 a1_3, .int .i64 a1_4]) (t := 30) ?hr ?_; (case hd => rfl); (case hg => rfl); (case hr => first | (go_simp; done) | (go_simp; rfl)); intro gb165 hg w8 hbox hb; have n0_ := Aside0.mk (blk_below (g := gb164) (o := .cells #[.slice A0_0 l0_0.length c0_0, .slice A0_1 l0_1.length c0_1, .int .i64 a0_2] 25 (0, 0)) (by apply_rules (transparency := .reducible) only [blk_drewN, blk_drew, blk_alloc, BK164.out]) hb); have n1_ := Aside0.mk (below_step (by apply_rules (transparency := .reducible) only [HB.out, below_alloc, pw_below_drewN, below_drew1, below_set, GE164.out]) hb); have n2_ := Aside0.mk (hbox); have n3_ := Aside0.mk ((by rw [hg]; exact (below_size (by apply_rules (transparency := .reducible) only [HB.out, below_alloc, pw_below_drewN, below_drew1, below_set, GE164.out])) : w.heap.size ≤ gb165)); have n4_ := Aside0.mk ((by rw [hg]; exact (below_size (by apply_rules (transparency := .reducible) only [HB.out, below_alloc, pw_below_drewN, below_drew1, below_set, GE164.out])) : w.heap.size ≤ gb165)); have n5_ := Aside0.mk ((by rw [hg]; exact Nat.ne_of_lt (blk_lt (g := gb164) (o := .cells #[.slice A0_0 l0_0.length c0_0, .slice A0_1 l0_1.length c0_1, .int .i64 a0_2] 25 (0, 0)) (by apply_rules (transparency := .reducible) only [blk_drewN, blk_drew, blk_alloc, BK164.out])) : gb164 ≠ gb165)); have n6_ := Aside0.mk ((by rw [hg]; exact Nat.ne_of_gt (blk_lt (g := gb164) (o := .cells #[.slice A0_0 l0_0.length c0_0, .slice A0_1 l0_1.length c0_1, .int .i64 a0_2] 25 (0, 0)) (by apply_rules (transparency := .reducible) only [blk_drewN, blk_drew, blk_alloc, BK164.out])) : gb165 ≠ gb164)); clear BK164; clear HB; have BK164 := n0_; have HB := n1_; have BK165 := n2_; have GW165 := n3_; have GE165 := n4_; have NB164_165 := n5_; have NB165_164 := n6_; clear n0_ n1_ n2_ n3_ n4_ n5_ n6_; clear hb hbox hg; have hnb9 := NB164_165.out; have hnc9 := NB165_164.out; obtain ⟨hcz10_0, hcz10_1, hcz10_2⟩ := blkc19_3 BK164.out; obtain ⟨hfz10_0, hfz10_1, hfz10_2⟩ := blkf19_3 BK164.out; have p166 : 0 ≤ (a2 : Int) := of_decide_eq_true (by first | (with_reducible assumption) | assumption); have q166 : a2 < (l0_0.length : Int) := of_decide_eq_true (by first | (with_reducible assumption) | assumption); obtain ⟨ad166, A166_3, c166_3, A166_4, c166_4, e166, hx166_0, hx166_1, hx166_2, hx166_3, hx166_4, hl166_3, hi166_3, hl166_4, hi166_4⟩ := at_T44 HR0_0.out a2 p166 q166; cases e166; replace hx166_0 := (HB.out.cell (World.block_lt_of_cell? w _ hx166_0)).trans hx166_0; replace hx166_1 := (HB.out.cell (World.block_lt_of_cell? w _ hx166_1)).trans hx166_1; replace hx166_2 := (HB.out.cell (World.block_lt_of_cell? w _ hx166_2)).trans hx166_2; replace hx166_3 := (HB.out.cell (World.block_lt_of_cell? w _ hx166_3)).trans hx166_3; replace hx166_4 := (HB.out.cell (World.block_lt_of_cell? w _ hx166_4)).trans hx166_4; have HR166_3 := Aside0.mk hi166_3; have HC166_3 := Aside0.mk hl166_3; clear hi166_3 hl166_3; have HR166_4 := Aside0.mk hi166_4; have HC166_4 := Aside0.mk hl166_4; clear hi166_4 hl166_4; replace p166 := eq_true p166; replace q166 := eq_true q166) | ((with_reducible refine gate_callee (f := 25) rfl ?_); refine goesL_ (some 21) rfl rfl Try.func25 (by kernel_rfl) rfl #[.slice A166_3 ((rd_T44 l0_0 a2).f3).length c166_3] rfl (by (try simp only [List.map_toArray, List.map_cons, List.map_nil]); first | done | rfl | (simp only [List.length_drop, List.length_take]; rfl)) ?_; (with_reducible refine (slices_Clone_uint32_uint32.calls _ _ ((rd_T44 l0_0 a2).f3) t167 _ ?side1 ?side2 A6.out).mono ?_); (case side1 => repeat (first | exact (Kd.C_below HR166_3.out HB.out) | (with_reducible refine Kd.C_alloc ?_ _) | (with_reducible refine Kd.C_drewN ?_ _) | (with_reducible refine Kd.C_drew ?_))); (case side2 => exact HC166_3.out); rintro e w11 ⟨v168, rfl, ho0, hb⟩; refine ⟨_, rfl, ?_⟩; have n0_ := Aside0.mk (Kd.R_lower ho0 (below_size (by apply_rules (transparency := .reducible) only [HB.out, below_alloc, pw_below_drewN, below_drew1, below_set, GE164.out, GE165.out]))); have n1_ := Aside0.mk (blk_below (g := gb164) (o := .cells #[.slice (some ad166) l0_0.length c0_0, .slice A0_1 l0_1.length c0_1, .int .i64 a0_2] 25 (0, 0)) (by apply_rules (transparency := .reducible) only [blk_drewN, blk_drew, blk_alloc, BK164.out]) hb); have n2_ := Aside0.mk (blk_below (g := gb165) (o := .cells #[.slice A1_0 l1_0.length c1_0, .slice A1_1 l1_1.length c1_1, .int .i64 a1_2, .int .i64 a1_3, .int .i64 a1_4] 30 (0, 0)) (by apply_rules (transparency := .reducible) only [blk_drewN, blk_drew, blk_alloc, BK165.out]) hb); have n3_ := Aside0.mk (below_step (by apply_rules (transparency := .reducible) only [HB.out, below_alloc, pw_below_drewN, below_drew1, below_set, GE164.out, GE165.out]) hb); clear BK164; clear BK165; clear HB; have HO169 := n0_; have BK164 := n1_; have BK165 := n2_; have HB := n3_; clear n0_ n1_ n2_ n3_; (try clear hb); (try clear hb2); (try clear hk); (try clear hi); (try clear ho0); obtain ⟨hcz12_0, hcz12_1, hcz12_2⟩ := blkc19_3 BK164.out; obtain ⟨hfz12_0, hfz12_1, hfz12_2⟩ := blkf19_3 BK164.out; have p170 : 0 ≤ (a2 : Int) := of_decide_eq_true (by first | (with_reducible assumption) | assumption); have q170 : a2 < (l0_0.length : Int) := of_decide_eq_true (by first | (with_reducible assumption) | assumption); obtain ⟨ad170, A170_3, c170_3, A170_4, c170_4, e170, hx170_0, hx170_1, hx170_2, hx170_3, hx170_4, hl170_3, hi170_3, hl170_4, hi170_4⟩ := at_T44 HR0_0.out a2 p170 q170; obtain rfl : ad166 = ad170 := (by injection e170); replace hx170_0 := (HB.out.cell (World.block_lt_of_cell? w _ hx170_0)).trans hx170_0; replace hx170_1 := (HB.out.cell (World.block_lt_of_cell? w _ hx170_1)).trans hx170_1; replace hx170_2 := (HB.out.cell (World.block_lt_of_cell? w _ hx170_2)).trans hx170_2; replace hx170_3 := (HB.out.cell (World.block_lt_of_cell? w _ hx170_3)).trans hx170_3; replace hx170_4 := (HB.out.cell (World.block_lt_of_cell? w _ hx170_4)).trans hx170_4; have HR170_3 := Aside0.mk hi170_3; have HC170_3 := Aside0.mk hl170_3; clear hi170_3 hl170_3; have HR170_4 := Aside0.mk hi170_4; have HC170_4 := Aside0.mk hl170_4; clear hi170_4 hl170_4; replace p170 := eq_true p170; replace q170 := eq_true q170))
 go_loopg [29] k (fun kq v29 w' => ∃ (x8_1 : List Int) (x29_1 : Int), v29 = .int .i64 x29_1 ∧ Aside0 (patch_Code.l0 kq a2 x8_1 ((rd_T44 l0_0 a2).f4) (((rd_T44 l0_0 a2).f4).length : Int) x29_1 l1_0 l1_1 a1_2 a1_3 a1_4 = some (r1, r2)) ∧ Aside0 (kq ≤ k) ∧ Aside0 (Kd.R (Kd.int .u32) 47 w' w.heap.size (fun _ => True) v168 x8_1) ∧ Aside0 (w'.heap[gb164]? = some (.cells #[(.slice (some ad166) l0_0.length c0_0), (.slice A0_1 l0_1.length c0_1), .int .i64 a0_2] 25 (0, 0))) ∧ Aside0 (w'.heap[gb165]? = some (.cells #[(.slice A1_0 l1_0.length c1_0), (.slice A1_1 l1_1.length c1_1), .int .i64 a1_2, .int .i64 a1_3, .int .i64 a1_4] 30 (0, 0))) ∧ Aside0 (Below w.heap.size w w'))
 case atStart => exact ⟨(t167), (0), (by first | rfl | (simp; done) | (simp [*]; done)), H', ⟨Nat.le_refl _⟩, ⟨by (with_reducible repeat (first | apply Kd.R_alloc | apply Kd.R_drewN | apply Kd.R_drew)); exact HO169.out⟩, ⟨by apply_rules (transparency := .reducible) only [blk_drewN, blk_drew, blk_alloc, BK164.out]⟩, ⟨by apply_rules (transparency := .reducible) only [blk_drewN, blk_drew, blk_alloc, BK165.out]⟩, ⟨by apply_rules (transparency := .reducible) only [HB.out, below_alloc, pw_below_drewN, below_drew1, below_set, GE164.out, GE165.out]⟩⟩
 case round =>
  clear H'
  (try clear c1); (try clear p1); (try clear q1); (try clear hx1); (try clear c2); (try clear p2); (try clear c4); (try clear c4b0); (try clear c5); (try clear c5b0); (try clear c9); (try clear c11); (try clear hcz10_0); (try clear hcz10_1); (try clear hcz10_2); (try clear hcz12_0); (try clear hcz12_1); (try clear hcz12_2); (try clear hfz10_0); (try clear hfz10_1); (try clear hfz10_2); (try clear hfz12_0); (try clear hfz12_1); (try clear hfz12_2); (try clear hx166_0); (try clear hx166_1); (try clear hx166_2); (try clear hx166_3); (try clear hx166_4); (try clear hx170_0); (try clear hx170_1); (try clear hx170_2); (try clear hx170_3); (try clear hx170_4); (try clear p166); (try clear p170); (try clear q166); (try clear q170)
  obtain ⟨x8_1, x29_1, rfl, HA, HK1, HO_8, BK164, BK165, HB⟩ := hrel
  cases gk with
  | zero => exact absurd HA.out (by simp [patch_Code.l0])
  | succ k1 =>
   have H := HA.out
   clear HA
   simp only [patch_Code.l0] at H
   by_cases c13 : x29_1 < (((rd_T44 l0_0 a2).f4).length : Int)
   ·
    rw [if_pos c13] at H
    have c13b0 : decide (x29_1 < (((rd_T44 l0_0 a2).f4).length : Int)) = true := decide_eq_true c13
    clear c13
    by_cases c14 : 0 ≤ x29_1
    case neg =>
     rw [if_neg c14] at H
     exact absurd H (by simp)
    rw [if_pos c14] at H
    have c14b0 : decide (0 ≤ x29_1) = true := decide_eq_true c14
    clear c14
    by_cases c15 : x29_1 < (((rd_T44 l0_0 a2).f4).length : Int)
    case neg =>
     rw [if_neg c15] at H
     exact absurd H (by simp)
    rw [if_pos c15] at H
    have c15b0 : decide (x29_1 < (((rd_T44 l0_0 a2).f4).length : Int)) = true := decide_eq_true c15
    clear c15
    by_cases c16 : 0 ≤ a2
    case neg =>
     rw [if_neg c16] at H
     exact absurd H (by simp)
    rw [if_pos c16] at H
    have c16b0 : decide (0 ≤ a2) = true := decide_eq_true c16
    clear c16
    by_cases c17 : a2 < (l1_0.length : Int)
    case neg =>
     rw [if_neg c17] at H
     exact absurd H (by simp)
    rw [if_pos c17] at H
    have c17b0 : decide (a2 < (l1_0.length : Int)) = true := decide_eq_true c17
    clear c17
    replace H := Option.bind_eq_some_iff.mp H
    obtain ⟨⟨t174, t175⟩, A180, H⟩ := H
    try dsimp only at H
    have A18 := Aside0.mk A180
    clear A180
    by_cases c19 : 0 ≤ ((rd_T46 ((rd_T44 l0_0 a2).f4) x29_1).f0)
    case neg =>
     rw [if_neg c19] at H
     exact absurd H (by simp)
    rw [if_pos c19] at H
    have c19b0 : decide (0 ≤ ((rd_T46 ((rd_T44 l0_0 a2).f4) x29_1).f0)) = true := decide_eq_true c19
    clear c19
    by_cases c20 : ((rd_T46 ((rd_T44 l0_0 a2).f4) x29_1).f0) < (x8_1.length : Int)
    case neg =>
     rw [if_neg c20] at H
     exact absurd H (by simp)
    rw [if_pos c20] at H
    have c20b0 : decide (((rd_T46 ((rd_T44 l0_0 a2).f4) x29_1).f0) < (x8_1.length : Int)) = true := decide_eq_true c20
    clear c20
    replace H := Option.bind_eq_some_iff.mp H
    obtain ⟨⟨t177, t178, t179, t180, t181, t182⟩, A210, H⟩ := H
    try dsimp only at H
    have A21 := Aside0.mk A210
    clear A210
    have HC22 := Aside0.mk H
    clear H
    have p171 : 0 ≤ (x29_1 : Int) := of_decide_eq_true (by first | (with_reducible assumption) | assumption)
    have q171 : x29_1 < (((rd_T44 l0_0 a2).f4).length : Int) := of_decide_eq_true (by first | (with_reducible assumption) | assumption)
    obtain ⟨ad171, e171, hx171_0, hx171_1, hx171_2, hx171_3⟩ := at_T46 HR170_4.out x29_1 p171 q171
    cases e171
    replace hx171_0 := (HB.out.cell (World.block_lt_of_cell? w _ hx171_0)).trans hx171_0
    replace hx171_1 := (HB.out.cell (World.block_lt_of_cell? w _ hx171_1)).trans hx171_1
    replace hx171_2 := (HB.out.cell (World.block_lt_of_cell? w _ hx171_2)).trans hx171_2
    replace hx171_3 := (HB.out.cell (World.block_lt_of_cell? w _ hx171_3)).trans hx171_3
    replace p171 := eq_true p171
    replace q171 := eq_true q171
    try go_wp2_with (first | ((with_reducible refine gate_dst (N := 10) rfl ?_); refine box_event ?hg (N := 10) ?hd (cs := #[.int .i64 0, .int .i64 0, .int .i64 0, .int .i64 0]) (t := 46) ?hr ?_; (case hd => rfl); (case hg => rfl); (case hr => first | (go_simp; done) | (go_simp; rfl)); intro gb172 hg w23 hbox hb; have n0_ := Aside0.mk (Kd.R_below (by (with_reducible repeat (first | apply Kd.R_alloc | apply Kd.R_drewN | apply Kd.R_drew)); exact HO_8.out) hb); have n1_ := Aside0.mk (blk_below (g := gb164) (o := .cells #[.slice (some ad166) l0_0.length c0_0, .slice A0_1 l0_1.length c0_1, .int .i64 a0_2] 25 (0, 0)) (by apply_rules (transparency := .reducible) only [blk_drewN, blk_drew, blk_alloc, BK164.out]) hb); have n2_ := Aside0.mk (blk_below (g := gb165) (o := .cells #[.slice A1_0 l1_0.length c1_0, .slice A1_1 l1_1.length c1_1, .int .i64 a1_2, .int .i64 a1_3, .int .i64 a1_4] 30 (0, 0)) (by apply_rules (transparency := .reducible) only [blk_drewN, blk_drew, blk_alloc, BK165.out]) hb); have n3_ := Aside0.mk (below_step (by apply_rules (transparency := .reducible) only [HB.out, below_alloc, pw_below_drewN, below_drew1, below_set, GE164.out, GE165.out]) hb); have n4_ := Aside0.mk (hbox); have n5_ := Aside0.mk ((by rw [hg]; exact (below_size (by apply_rules (transparency := .reducible) only [HB.out, below_alloc, pw_below_drewN, below_drew1, below_set, GE164.out, GE165.out])) : w.heap.size ≤ gb172)); have n6_ := Aside0.mk ((by rw [hg]; exact (below_size (by apply_rules (transparency := .reducible) only [HB.out, below_alloc, pw_below_drewN, below_drew1, below_set, GE164.out, GE165.out])) : w.heap.size ≤ gb172)); have n7_ := Aside0.mk ((by rw [hg]; exact Nat.ne_of_lt (blk_lt (g := gb164) (o := .cells #[.slice (some ad166) l0_0.length c0_0, .slice A0_1 l0_1.length c0_1, .int .i64 a0_2] 25 (0, 0)) (by apply_rules (transparency := .reducible) only [blk_drewN, blk_drew, blk_alloc, BK164.out])) : gb164 ≠ gb172)); have n8_ := Aside0.mk ((by rw [hg]; exact Nat.ne_of_gt (blk_lt (g := gb164) (o := .cells #[.slice (some ad166) l0_0.length c0_0, .slice A0_1 l0_1.length c0_1, .int .i64 a0_2] 25 (0, 0)) (by apply_rules (transparency := .reducible) only [blk_drewN, blk_drew, blk_alloc, BK164.out])) : gb172 ≠ gb164)); have n9_ := Aside0.mk ((by rw [hg]; exact Nat.ne_of_lt (blk_lt (g := gb165) (o := .cells #[.slice A1_0 l1_0.length c1_0, .slice A1_1 l1_1.length c1_1, .int .i64 a1_2, .int .i64 a1_3, .int .i64 a1_4] 30 (0, 0)) (by apply_rules (transparency := .reducible) only [blk_drewN, blk_drew, blk_alloc, BK165.out])) : gb165 ≠ gb172)); have n10_ := Aside0.mk ((by rw [hg]; exact Nat.ne_of_gt (blk_lt (g := gb165) (o := .cells #[.slice A1_0 l1_0.length c1_0, .slice A1_1 l1_1.length c1_1, .int .i64 a1_2, .int .i64 a1_3, .int .i64 a1_4] 30 (0, 0)) (by apply_rules (transparency := .reducible) only [blk_drewN, blk_drew, blk_alloc, BK165.out])) : gb172 ≠ gb165)); clear HO_8; clear BK164; clear BK165; clear HB; have HO_8 := n0_; have BK164 := n1_; have BK165 := n2_; have HB := n3_; have BK172 := n4_; have GW172 := n5_; have GE172 := n6_; have NB164_172 := n7_; have NB172_164 := n8_; have NB165_172 := n9_; have NB172_165 := n10_; clear n0_ n1_ n2_ n3_ n4_ n5_ n6_ n7_ n8_ n9_ n10_; clear hb hbox hg; have hnb24 := NB172_164.out; have hnc24 := NB164_172.out; have hnb25 := NB172_165.out; have hnc25 := NB165_172.out; obtain ⟨hcz26_0, hcz26_1, hcz26_2, hcz26_3⟩ := blkc19_4 BK172.out; obtain ⟨hfz26_0, hfz26_1, hfz26_2, hfz26_3⟩ := blkf19_4 BK172.out))
    obtain ⟨w27, hw27_⟩ : ∃ w_ : World, w_ = ((((w23.setCell ⟨gb172, 0, none⟩ (.int .i64 ((rd_T46 ((rd_T44 l0_0 a2).f4) x29_1).f0))).setCell ⟨gb172, 1, none⟩ (.int .i64 ((rd_T46 ((rd_T44 l0_0 a2).f4) x29_1).f1))).setCell ⟨gb172, 2, none⟩ (.int .i64 ((rd_T46 ((rd_T44 l0_0 a2).f4) x29_1).f2))).setCell ⟨gb172, 3, none⟩ (.int .i64 ((rd_T46 ((rd_T44 l0_0 a2).f4) x29_1).f3))) := ⟨_, rfl⟩
    have n0_ : Aside0 (Kd.R (Kd.int .u32) 47 w27 w.heap.size (fun _ => True) v168 x8_1) := ⟨by rw [hw27_]; (with_reducible repeat (first | apply Kd.R_alloc | apply Kd.R_drewN | apply Kd.R_drew)); exact Kd.R_mono (Kd.R_far (p := ⟨gb172, 3, none⟩) (Kd.R_far (p := ⟨gb172, 2, none⟩) (Kd.R_far (p := ⟨gb172, 1, none⟩) (Kd.R_far (p := ⟨gb172, 0, none⟩) (Kd.R_types HO_8.out BK172.out (by decide)) (fun _ hk => hk.2) (.int .i64 ((rd_T46 ((rd_T44 l0_0 a2).f4) x29_1).f0))) (fun _ hk => hk.2) (.int .i64 ((rd_T46 ((rd_T44 l0_0 a2).f4) x29_1).f1))) (fun _ hk => hk.2) (.int .i64 ((rd_T46 ((rd_T44 l0_0 a2).f4) x29_1).f2))) (fun _ hk => hk.2) (.int .i64 ((rd_T46 ((rd_T44 l0_0 a2).f4) x29_1).f3))) (fun _ hk => trivial)⟩
    have n1_ : Aside0 (w27.heap[gb164]? = some (.cells #[.slice (some ad166) l0_0.length c0_0, .slice A0_1 l0_1.length c0_1, .int .i64 a0_2] 25 (0, 0))) := ⟨by rw [hw27_]; apply_rules (transparency := .reducible) only [blk_drewN, blk_drew, blk_alloc, blk_far, NB164_172.out, BK164.out]⟩
    have n2_ : Aside0 (w27.heap[gb165]? = some (.cells #[.slice A1_0 l1_0.length c1_0, .slice A1_1 l1_1.length c1_1, .int .i64 a1_2, .int .i64 a1_3, .int .i64 a1_4] 30 (0, 0))) := ⟨by rw [hw27_]; apply_rules (transparency := .reducible) only [blk_drewN, blk_drew, blk_alloc, blk_far, NB165_172.out, BK165.out]⟩
    have n3_ : Aside0 (w27.heap[gb172]? = some (.cells #[.int .i64 ((rd_T46 ((rd_T44 l0_0 a2).f4) x29_1).f0), .int .i64 ((rd_T46 ((rd_T44 l0_0 a2).f4) x29_1).f1), .int .i64 ((rd_T46 ((rd_T44 l0_0 a2).f4) x29_1).f2), .int .i64 ((rd_T46 ((rd_T44 l0_0 a2).f4) x29_1).f3)] 46 (0, 0))) := ⟨by rw [hw27_]; (try apply_rules (transparency := .reducible) only [blk_drewN, blk_drew, blk_alloc]); refine blk_put (cs := #[.int .i64 ((rd_T46 ((rd_T44 l0_0 a2).f4) x29_1).f0), .int .i64 ((rd_T46 ((rd_T44 l0_0 a2).f4) x29_1).f1), .int .i64 ((rd_T46 ((rd_T44 l0_0 a2).f4) x29_1).f2), .int .i64 0]) ?_ 3 _ rfl; refine blk_put (cs := #[.int .i64 ((rd_T46 ((rd_T44 l0_0 a2).f4) x29_1).f0), .int .i64 ((rd_T46 ((rd_T44 l0_0 a2).f4) x29_1).f1), .int .i64 0, .int .i64 0]) ?_ 2 _ rfl; refine blk_put (cs := #[.int .i64 ((rd_T46 ((rd_T44 l0_0 a2).f4) x29_1).f0), .int .i64 0, .int .i64 0, .int .i64 0]) ?_ 1 _ rfl; refine blk_put (cs := #[.int .i64 0, .int .i64 0, .int .i64 0, .int .i64 0]) ?_ 0 _ rfl; (try apply_rules (transparency := .reducible) only [blk_drewN, blk_drew, blk_alloc]); exact BK172.out⟩
    have n4_ : Aside0 (Below w.heap.size w w27) := ⟨by rw [hw27_]; apply_rules (transparency := .reducible) only [HB.out, below_alloc, pw_below_drewN, below_drew1, below_set, GE164.out, GE165.out, GE172.out]⟩
    (try clear HO_8)
    (try clear BK164)
    (try clear BK165)
    (try clear BK172)
    (try clear HB)
    (try rw [← hw27_])
    clear hw27_
    have HO_8 := n0_
    have BK164 := n1_
    have BK165 := n2_
    have BK172 := n3_
    have HB := n4_
    clear n0_ n1_ n2_ n3_ n4_
    have n0_ := Aside0.mk (Kd.R_drew HO_8.out)
    have n1_ := Aside0.mk (blk_drew BK164.out)
    have n2_ := Aside0.mk (blk_drew BK165.out)
    have n3_ := Aside0.mk (blk_drew BK172.out)
    have n4_ := Aside0.mk (below_drew1 HB.out)
    clear HO_8
    clear BK164
    clear BK165
    clear BK172
    clear HB
    have HO_8 := n0_
    have BK164 := n1_
    have BK165 := n2_
    have BK172 := n3_
    have HB := n4_
    clear n0_ n1_ n2_ n3_ n4_
    have p173 : 0 ≤ (a2 : Int) := of_decide_eq_true (by first | (with_reducible assumption) | assumption)
    have q173 : a2 < (l1_0.length : Int) := of_decide_eq_true (by first | (with_reducible assumption) | assumption)
    obtain ⟨ad173, e173, hx173_0⟩ := Kd.at_int HR1_0.out a2 p173 q173
    have hw173_0 := hx173_0
    cases e173
    replace hx173_0 := (HB.out.cell (World.block_lt_of_cell? w _ hx173_0)).trans hx173_0
    replace p173 := eq_true p173
    replace q173 := eq_true q173
    refine start_ (n := 13) (S := fun w' => w'.cell? ⟨gb165, 0, none⟩ = some (.slice (some ad173) l1_0.length c1_0) ∧ w'.cell? ⟨gb165, 1, none⟩ = some (.slice A1_1 l1_1.length c1_1) ∧ w'.cell? ⟨gb165, 2, none⟩ = some (.int .i64 a1_2) ∧ w'.cell? ⟨gb165, 3, none⟩ = some (.int .i64 a1_3) ∧ w'.cell? ⟨gb165, 4, none⟩ = some (.int .i64 a1_4) ∧ w'.cell? ⟨gb172, 0, none⟩ = some (.int .i64 ((rd_T46 ((rd_T44 l0_0 a2).f4) x29_1).f0)) ∧ w'.cell? ⟨gb172, 1, none⟩ = some (.int .i64 ((rd_T46 ((rd_T44 l0_0 a2).f4) x29_1).f1)) ∧ w'.cell? ⟨gb172, 2, none⟩ = some (.int .i64 ((rd_T46 ((rd_T44 l0_0 a2).f4) x29_1).f2)) ∧ w'.cell? ⟨gb172, 3, none⟩ = some (.int .i64 ((rd_T46 ((rd_T44 l0_0 a2).f4) x29_1).f3)) ∧ w'.cell? (ad173.add (a2).toNat) = some (.int .i64 (rd l1_0 a2))) (ds := []) #[false, false, false, false, false, false, false, false, false, false, false, false, false] (by kernel_rfl) rfl rfl ⟨(blk_cell BK165.out 0).trans rfl, (blk_cell BK165.out 1).trans rfl, (blk_cell BK165.out 2).trans rfl, (blk_cell BK165.out 3).trans rfl, (blk_cell BK165.out 4).trans rfl, (blk_cell BK172.out 0).trans rfl, (blk_cell BK172.out 1).trans rfl, (blk_cell BK172.out 2).trans rfl, (blk_cell BK172.out 3).trans rfl, ((HB.out.cell (World.block_lt_of_cell? w _ hw173_0)).trans hw173_0)⟩ (fun hHeld => ?_); refine with_tabW patch_Code.tab5 patch_Code.bits5 (fun HT_ HW_ => ?_)
    generalize w27.drew = w28 at HO_8 BK164 BK165 BK172 HB hx173_0 hHeld ⊢
    refine pure_ (i := 1) (N := some 35) (v := ?_) (a' := ?_) #[false, true, false, false, false, false, false, false, false, false, false, false, false] rfl rfl (any_of HT_.out (by kernel_rfl)) (fun _ _ _ h => h) (Or.inl ⟨by rfl, ?_⟩) ?_ ?_
    rotate_left
    ·
     intro w'
     go_simp
     with_reducible rfl
    rotate_left
    ·
     simp only [Act.put, List.setIfInBounds_toArray, List.set_cons_zero, List.set_cons_succ, i64_w, i32_w]
     rfl
    refine pure_ (i := 3) (N := some 37) (v := ?_) (a' := ?_) #[false, true, false, true, false, false, false, false, false, false, false, false, false] rfl rfl (any_of HT_.out (by kernel_rfl)) (fun _ _ _ h => h) (Or.inl ⟨by rfl, ?_⟩) ?_ ?_
    rotate_left
    ·
     intro w'
     go_simp
     with_reducible rfl
    rotate_left
    ·
     simp only [Act.put, List.setIfInBounds_toArray, List.set_cons_zero, List.set_cons_succ, i64_w, i32_w]
     rfl
    refine take_ (i := 0) (N := some 34) (v := ?_) (a' := ?_) #[true, true, false, true, false, false, false, false, false, false, false, false, false] rfl rfl (take_ofW HT_.out HW_.out (by kernel_rfl)) (fun _ _ _ h => h) (Or.inl ⟨by rfl, ?_⟩) hHeld ?_ ?_
    rotate_left
    ·
     rintro w' ⟨s0, s1, s2, s3, s4, s5, s6, s7, s8, s9⟩
     go_simp
     with_reducible rfl
    rotate_left
    ·
     simp only [Act.put, List.setIfInBounds_toArray, List.set_cons_zero, List.set_cons_succ, i64_w, i32_w]
     rfl
    refine take_ (i := 2) (N := some 36) (v := ?_) (a' := ?_) #[true, true, true, true, false, false, false, false, false, false, false, false, false] rfl rfl (take_ofW HT_.out HW_.out (by kernel_rfl)) (fun _ _ _ h => h) (Or.inl ⟨by rfl, ?_⟩) hHeld ?_ ?_
    rotate_left
    ·
     rintro w' ⟨s0, s1, s2, s3, s4, s5, s6, s7, s8, s9⟩
     go_simp
     with_reducible rfl
    rotate_left
    ·
     simp only [Act.put, List.setIfInBounds_toArray, List.set_cons_zero, List.set_cons_succ, i64_w, i32_w]
     rfl
    refine pure_ (i := 4) (N := some 38) (v := ?_) (a' := ?_) #[true, true, true, true, true, false, false, false, false, false, false, false, false] rfl rfl (any_of HT_.out (by kernel_rfl)) (fun _ _ _ h => h) (Or.inl ⟨by rfl, ?_⟩) ?_ ?_
    rotate_left
    ·
     intro w'
     go_simp
     with_reducible rfl
    rotate_left
    ·
     simp only [Act.put, List.setIfInBounds_toArray, List.set_cons_zero, List.set_cons_succ, i64_w, i32_w]
     rfl
    refine take_ (i := 5) (N := some 39) (v := ?_) (a' := ?_) #[true, true, true, true, true, true, false, false, false, false, false, false, false] rfl rfl (take_ofW HT_.out HW_.out (by kernel_rfl)) (fun _ _ _ h => h) (Or.inl ⟨by rfl, ?_⟩) hHeld ?_ ?_
    rotate_left
    ·
     rintro w' ⟨s0, s1, s2, s3, s4, s5, s6, s7, s8, s9⟩
     go_simp
     with_reducible rfl
    rotate_left
    ·
     simp only [Act.put, List.setIfInBounds_toArray, List.set_cons_zero, List.set_cons_succ, i64_w, i32_w]
     rfl
    refine take_ (i := 6) (N := some 40) (v := ?_) (a' := ?_) #[true, true, true, true, true, true, true, false, false, false, false, false, false] rfl rfl (take_ofW HT_.out HW_.out (by kernel_rfl)) (fun _ _ _ h => h) (Or.inl ⟨by rfl, ?_⟩) hHeld ?_ ?_
    rotate_left
    ·
     rintro w' ⟨s0, s1, s2, s3, s4, s5, s6, s7, s8, s9⟩
     go_simp
     with_reducible rfl
    rotate_left
    ·
     simp only [Act.put, List.setIfInBounds_toArray, List.set_cons_zero, List.set_cons_succ, i64_w, i32_w]
     rfl
    refine one_ (i := 7) (N := some 41) #[true, true, true, true, true, true, true, true, false, false, false, false, false] rfl rfl (one_of HT_.out (by kernel_rfl)) (by decide) (fun K hK => ?_)
    refine goes_ Try.func26 (by kernel_rfl) rfl #[.agg #[.slice (some ad173) l1_0.length c1_0, .slice A1_1 l1_1.length c1_1, .int .i64 a1_2, .int .i64 a1_3, .int .i64 a1_4], .int .i64 (rd l1_0 a2), .agg #[.int .i64 ((rd_T46 ((rd_T44 l0_0 a2).f4) x29_1).f0), .int .i64 ((rd_T46 ((rd_T44 l0_0 a2).f4) x29_1).f1), .int .i64 ((rd_T46 ((rd_T44 l0_0 a2).f4) x29_1).f2), .int .i64 ((rd_T46 ((rd_T44 l0_0 a2).f4) x29_1).f3)]] (by rfl) rfl rfl (by (try simp only [List.map_toArray, List.map_cons, List.map_nil]); first | done | rfl | (simp only [List.length_drop, List.length_take]; rfl)) ?_
    with_reducible refine (patch_imm.calls _ _ l1_0 _ _ l1_1 a1_2 a1_3 a1_4 (rd l1_0 a2) ((rd_T46 ((rd_T44 l0_0 a2).f4) x29_1).f0) ((rd_T46 ((rd_T44 l0_0 a2).f4) x29_1).f1) ((rd_T46 ((rd_T44 l0_0 a2).f4) x29_1).f2) ((rd_T46 ((rd_T44 l0_0 a2).f4) x29_1).f3) t174 t175 _ ?side1 ?side2 ?side3 ?side4 A18.out).mono ?_
    (case side1 => repeat (first | exact (Kd.C_below HR1_0.out HB.out) | (with_reducible refine Kd.C_alloc ?_ _) | (with_reducible refine Kd.C_drewN ?_ _) | (with_reducible refine Kd.C_drew ?_)))
    (case side2 => exact HC1_0.out)
    (case side3 => repeat (first | exact (Kd.C_below HR1_1.out HB.out) | (with_reducible refine Kd.C_alloc ?_ _) | (with_reducible refine Kd.C_drewN ?_ _) | (with_reducible refine Kd.C_drew ?_)))
    (case side4 => exact HC1_1.out)
    rintro e w29 ⟨rfl, hb⟩
    refine ⟨_, rfl, ?_⟩
    have n0_ := Aside0.mk (Kd.R_below (by (with_reducible repeat (first | apply Kd.R_alloc | apply Kd.R_drewN | apply Kd.R_drew)); exact HO_8.out) hb)
    have n1_ := Aside0.mk (blk_below (g := gb164) (o := .cells #[.slice (some ad166) l0_0.length c0_0, .slice A0_1 l0_1.length c0_1, .int .i64 a0_2] 25 (0, 0)) (by apply_rules (transparency := .reducible) only [blk_drewN, blk_drew, blk_alloc, BK164.out]) hb)
    have n2_ := Aside0.mk (blk_below (g := gb165) (o := .cells #[.slice (some ad173) l1_0.length c1_0, .slice A1_1 l1_1.length c1_1, .int .i64 a1_2, .int .i64 a1_3, .int .i64 a1_4] 30 (0, 0)) (by apply_rules (transparency := .reducible) only [blk_drewN, blk_drew, blk_alloc, BK165.out]) hb)
    have n3_ := Aside0.mk (blk_below (g := gb172) (o := .cells #[.int .i64 ((rd_T46 ((rd_T44 l0_0 a2).f4) x29_1).f0), .int .i64 ((rd_T46 ((rd_T44 l0_0 a2).f4) x29_1).f1), .int .i64 ((rd_T46 ((rd_T44 l0_0 a2).f4) x29_1).f2), .int .i64 ((rd_T46 ((rd_T44 l0_0 a2).f4) x29_1).f3)] 46 (0, 0)) (by apply_rules (transparency := .reducible) only [blk_drewN, blk_drew, blk_alloc, BK172.out]) hb)
    have n4_ := Aside0.mk (below_step (by apply_rules (transparency := .reducible) only [HB.out, below_alloc, pw_below_drewN, below_drew1, below_set, GE164.out, GE165.out, GE172.out]) hb)
    clear HO_8
    clear BK164
    clear BK165
    clear BK172
    clear HB
    have HO_8 := n0_
    have BK164 := n1_
    have BK165 := n2_
    have BK172 := n3_
    have HB := n4_
    clear n0_ n1_ n2_ n3_ n4_
    (try clear hb)
    (try clear hb2)
    (try clear hk)
    (try clear hi)
    refine hK.out _ _ ⟨(blk_cell BK165.out 0).trans rfl, (blk_cell BK165.out 1).trans rfl, (blk_cell BK165.out 2).trans rfl, (blk_cell BK165.out 3).trans rfl, (blk_cell BK165.out 4).trans rfl, (blk_cell BK172.out 0).trans rfl, (blk_cell BK172.out 1).trans rfl, (blk_cell BK172.out 2).trans rfl, (blk_cell BK172.out 3).trans rfl, ((HB.out.cell (World.block_lt_of_cell? w _ hw173_0)).trans hw173_0)⟩ (fun hHeld => ?_)
    clear hK K
    refine norm_ (a' := ?_) ?_ ?_
    rotate_left
    ·
     show Act.put _ (some 41) _ = _
     simp only [Act.put, List.setIfInBounds_toArray, List.set_cons_zero, List.set_cons_succ, i64_w, i32_w]
     rfl
    refine pure_ (i := 8) (N := some 33) (v := ?_) (a' := ?_) #[true, true, true, true, true, true, true, true, true, false, false, false, false] rfl rfl (any_of HT_.out (by kernel_rfl)) (fun _ _ _ h => h) (Or.inl ⟨by rfl, ?_⟩) ?_ ?_
    rotate_left
    ·
     intro w'
     go_simp
     with_reducible rfl
    rotate_left
    ·
     simp only [Act.put, List.setIfInBounds_toArray, List.set_cons_zero, List.set_cons_succ, i64_w, i32_w]
     rfl
    refine pure_ (i := 9) (N := some 42) (v := ?_) (a' := ?_) #[true, true, true, true, true, true, true, true, true, true, false, false, false] rfl rfl (any_of HT_.out (by kernel_rfl)) (fun _ _ _ h => h) (Or.inl ⟨by rfl, ?_⟩) ?_ ?_
    rotate_left
    ·
     intro w'
     go_simp
     with_reducible rfl
    rotate_left
    ·
     simp only [Act.put, List.setIfInBounds_toArray, List.set_cons_zero, List.set_cons_succ, i64_w, i32_w]
     rfl
    refine pure_ (i := 10) (N := some 43) (v := ?_) (a' := ?_) #[true, true, true, true, true, true, true, true, true, true, true, false, false] rfl rfl (any_of HT_.out (by kernel_rfl)) (fun _ _ _ h => h) (Or.inl ⟨by rfl, ?_⟩) ?_ ?_
    rotate_left
    ·
     intro w'
     go_simp
     with_reducible rfl
    rotate_left
    ·
     simp only [Act.put, List.setIfInBounds_toArray, List.set_cons_zero, List.set_cons_succ, i64_w, i32_w]
     rfl
    refine pure_ (i := 11) (N := some 11) (v := ?_) (a' := ?_) #[true, true, true, true, true, true, true, true, true, true, true, true, false] rfl rfl (any_of HT_.out (by kernel_rfl)) (fun _ _ _ h => h) (Or.inl ⟨by rfl, ?_⟩) ?_ ?_
    rotate_left
    ·
     intro w'
     go_simp
     with_reducible rfl
    rotate_left
    ·
     simp only [Act.put, List.setIfInBounds_toArray, List.set_cons_zero, List.set_cons_succ, i64_w, i32_w]
     rfl
    refine pure_ (i := 12) (N := some 12) (v := ?_) (a' := ?_) #[true, true, true, true, true, true, true, true, true, true, true, true, true] rfl rfl (any_of HT_.out (by kernel_rfl)) (fun _ _ _ h => h) (Or.inl ⟨by rfl, ?_⟩) ?_ ?_
    rotate_left
    ·
     intro w'
     go_simp
     with_reducible rfl
    rotate_left
    ·
     simp only [Act.put, List.setIfInBounds_toArray, List.set_cons_zero, List.set_cons_succ, i64_w, i32_w]
     rfl
    refine done_ (done_of HT_.out (by kernel_rfl)) ?_
    have hcz30_0 : w29.cell? ⟨gb172, 0, none⟩ = some (.int .i64 ((rd_T46 ((rd_T44 l0_0 a2).f4) x29_1).f0)) := (blk_cell BK172.out 0).trans rfl
    have hcz30_1 : w29.cell? ⟨gb172, 1, none⟩ = some (.int .i64 ((rd_T46 ((rd_T44 l0_0 a2).f4) x29_1).f1)) := (blk_cell BK172.out 1).trans rfl
    have hcz30_2 : w29.cell? ⟨gb172, 2, none⟩ = some (.int .i64 ((rd_T46 ((rd_T44 l0_0 a2).f4) x29_1).f2)) := (blk_cell BK172.out 2).trans rfl
    have hcz30_3 : w29.cell? ⟨gb172, 3, none⟩ = some (.int .i64 ((rd_T46 ((rd_T44 l0_0 a2).f4) x29_1).f3)) := (blk_cell BK172.out 3).trans rfl
    obtain ⟨hfz30_0, hfz30_1, hfz30_2, hfz30_3⟩ := blkf19_4 BK172.out
    obtain ⟨Ao31, co31, eo31⟩ := Kd.R_slice HO_8.out
    subst eo31
    have p176 : 0 ≤ (((rd_T46 ((rd_T44 l0_0 a2).f4) x29_1).f0) : Int) := of_decide_eq_true (by first | (with_reducible assumption) | assumption)
    have q176 : ((rd_T46 ((rd_T44 l0_0 a2).f4) x29_1).f0) < (x8_1.length : Int) := of_decide_eq_true (by first | (with_reducible assumption) | assumption)
    obtain ⟨ad176, e176, hx176_0⟩ := Kd.at_int (Kd.R_reads' HO_8.out).2.2 ((rd_T46 ((rd_T44 l0_0 a2).f4) x29_1).f0) p176 q176
    cases e176
    replace p176 := eq_true p176
    replace q176 := eq_true q176
    go_upto_region 7 with (first | ((with_reducible refine gate_callee (f := 27) rfl ?_); refine goesL_ (some 50) rfl rfl Try.func27 (by kernel_rfl) rfl #[.int .u32 (rd x8_1 ((rd_T46 ((rd_T44 l0_0 a2).f4) x29_1).f0))] rfl (by (try simp only [List.map_toArray, List.map_cons, List.map_nil]); first | done | rfl | (simp only [List.length_drop, List.length_take]; rfl)) ?_; (with_reducible refine (code_Get.calls k1 (rd x8_1 ((rd_T46 ((rd_T44 l0_0 a2).f4) x29_1).f0)) t177 t178 t179 t180 t181 t182 _ A21.out).mono ?_); rintro e w32 ⟨rfl, hb⟩; refine ⟨_, rfl, ?_⟩; have n0_ := Aside0.mk (Kd.R_below (by (with_reducible repeat (first | apply Kd.R_alloc | apply Kd.R_drewN | apply Kd.R_drew)); exact HO_8.out) hb); have n1_ := Aside0.mk (blk_below (g := gb164) (o := .cells #[.slice (some ad166) l0_0.length c0_0, .slice A0_1 l0_1.length c0_1, .int .i64 a0_2] 25 (0, 0)) (by apply_rules (transparency := .reducible) only [blk_drewN, blk_drew, blk_alloc, BK164.out]) hb); have n2_ := Aside0.mk (blk_below (g := gb165) (o := .cells #[.slice (some ad173) l1_0.length c1_0, .slice A1_1 l1_1.length c1_1, .int .i64 a1_2, .int .i64 a1_3, .int .i64 a1_4] 30 (0, 0)) (by apply_rules (transparency := .reducible) only [blk_drewN, blk_drew, blk_alloc, BK165.out]) hb); have n3_ := Aside0.mk (blk_below (g := gb172) (o := .cells #[.int .i64 ((rd_T46 ((rd_T44 l0_0 a2).f4) x29_1).f0), .int .i64 ((rd_T46 ((rd_T44 l0_0 a2).f4) x29_1).f1), .int .i64 ((rd_T46 ((rd_T44 l0_0 a2).f4) x29_1).f2), .int .i64 ((rd_T46 ((rd_T44 l0_0 a2).f4) x29_1).f3)] 46 (0, 0)) (by apply_rules (transparency := .reducible) only [blk_drewN, blk_drew, blk_alloc, BK172.out]) hb); have n4_ := Aside0.mk (below_step (by apply_rules (transparency := .reducible) only [HB.out, below_alloc, pw_below_drewN, below_drew1, below_set, GE164.out, GE165.out, GE172.out]) hb); clear HO_8; clear BK164; clear BK165; clear BK172; clear HB; have HO_8 := n0_; have BK164 := n1_; have BK165 := n2_; have BK172 := n3_; have HB := n4_; clear n0_ n1_ n2_ n3_ n4_; (try clear hb); (try clear hb2); (try clear hk); (try clear hi)) | ((with_reducible refine gate_dst (N := 13) rfl ?_); refine box_event ?hg (N := 13) ?hd (cs := #[.int .i64 0, .int .i64 0, .int .i64 0, .int .i64 0, .int .i64 0]) (t := 49) ?hr ?_; (case hd => rfl); (case hg => rfl); (case hr => first | (go_simp; done) | (go_simp; rfl)); intro gb183 hg w33 hbox hb; have n0_ := Aside0.mk (Kd.R_below (by (with_reducible repeat (first | apply Kd.R_alloc | apply Kd.R_drewN | apply Kd.R_drew)); exact HO_8.out) hb); have n1_ := Aside0.mk (blk_below (g := gb164) (o := .cells #[.slice (some ad166) l0_0.length c0_0, .slice A0_1 l0_1.length c0_1, .int .i64 a0_2] 25 (0, 0)) (by apply_rules (transparency := .reducible) only [blk_drewN, blk_drew, blk_alloc, BK164.out]) hb); have n2_ := Aside0.mk (blk_below (g := gb165) (o := .cells #[.slice (some ad173) l1_0.length c1_0, .slice A1_1 l1_1.length c1_1, .int .i64 a1_2, .int .i64 a1_3, .int .i64 a1_4] 30 (0, 0)) (by apply_rules (transparency := .reducible) only [blk_drewN, blk_drew, blk_alloc, BK165.out]) hb); have n3_ := Aside0.mk (blk_below (g := gb172) (o := .cells #[.int .i64 ((rd_T46 ((rd_T44 l0_0 a2).f4) x29_1).f0), .int .i64 ((rd_T46 ((rd_T44 l0_0 a2).f4) x29_1).f1), .int .i64 ((rd_T46 ((rd_T44 l0_0 a2).f4) x29_1).f2), .int .i64 ((rd_T46 ((rd_T44 l0_0 a2).f4) x29_1).f3)] 46 (0, 0)) (by apply_rules (transparency := .reducible) only [blk_drewN, blk_drew, blk_alloc, BK172.out]) hb); have n4_ := Aside0.mk (below_step (by apply_rules (transparency := .reducible) only [HB.out, below_alloc, pw_below_drewN, below_drew1, below_set, GE164.out, GE165.out, GE172.out]) hb); have n5_ := Aside0.mk (hbox); have n6_ := Aside0.mk ((by rw [hg]; exact (below_size (by apply_rules (transparency := .reducible) only [HB.out, below_alloc, pw_below_drewN, below_drew1, below_set, GE164.out, GE165.out, GE172.out])) : w.heap.size ≤ gb183)); have n7_ := Aside0.mk ((by rw [hg]; exact (below_size (by apply_rules (transparency := .reducible) only [HB.out, below_alloc, pw_below_drewN, below_drew1, below_set, GE164.out, GE165.out, GE172.out])) : w.heap.size ≤ gb183)); have n8_ := Aside0.mk ((by rw [hg]; exact Nat.ne_of_lt (blk_lt (g := gb164) (o := .cells #[.slice (some ad166) l0_0.length c0_0, .slice A0_1 l0_1.length c0_1, .int .i64 a0_2] 25 (0, 0)) (by apply_rules (transparency := .reducible) only [blk_drewN, blk_drew, blk_alloc, BK164.out])) : gb164 ≠ gb183)); have n9_ := Aside0.mk ((by rw [hg]; exact Nat.ne_of_gt (blk_lt (g := gb164) (o := .cells #[.slice (some ad166) l0_0.length c0_0, .slice A0_1 l0_1.length c0_1, .int .i64 a0_2] 25 (0, 0)) (by apply_rules (transparency := .reducible) only [blk_drewN, blk_drew, blk_alloc, BK164.out])) : gb183 ≠ gb164)); have n10_ := Aside0.mk ((by rw [hg]; exact Nat.ne_of_lt (blk_lt (g := gb165) (o := .cells #[.slice (some ad173) l1_0.length c1_0, .slice A1_1 l1_1.length c1_1, .int .i64 a1_2, .int .i64 a1_3, .int .i64 a1_4] 30 (0, 0)) (by apply_rules (transparency := .reducible) only [blk_drewN, blk_drew, blk_alloc, BK165.out])) : gb165 ≠ gb183)); have n11_ := Aside0.mk ((by rw [hg]; exact Nat.ne_of_gt (blk_lt (g := gb165) (o := .cells #[.slice (some ad173) l1_0.length c1_0, .slice A1_1 l1_1.length c1_1, .int .i64 a1_2, .int .i64 a1_3, .int .i64 a1_4] 30 (0, 0)) (by apply_rules (transparency := .reducible) only [blk_drewN, blk_drew, blk_alloc, BK165.out])) : gb183 ≠ gb165)); have n12_ := Aside0.mk ((by rw [hg]; exact Nat.ne_of_lt (blk_lt (g := gb172) (o := .cells #[.int .i64 ((rd_T46 ((rd_T44 l0_0 a2).f4) x29_1).f0), .int .i64 ((rd_T46 ((rd_T44 l0_0 a2).f4) x29_1).f1), .int .i64 ((rd_T46 ((rd_T44 l0_0 a2).f4) x29_1).f2), .int .i64 ((rd_T46 ((rd_T44 l0_0 a2).f4) x29_1).f3)] 46 (0, 0)) (by apply_rules (transparency := .reducible) only [blk_drewN, blk_drew, blk_alloc, BK172.out])) : gb172 ≠ gb183)); have n13_ := Aside0.mk ((by rw [hg]; exact Nat.ne_of_gt (blk_lt (g := gb172) (o := .cells #[.int .i64 ((rd_T46 ((rd_T44 l0_0 a2).f4) x29_1).f0), .int .i64 ((rd_T46 ((rd_T44 l0_0 a2).f4) x29_1).f1), .int .i64 ((rd_T46 ((rd_T44 l0_0 a2).f4) x29_1).f2), .int .i64 ((rd_T46 ((rd_T44 l0_0 a2).f4) x29_1).f3)] 46 (0, 0)) (by apply_rules (transparency := .reducible) only [blk_drewN, blk_drew, blk_alloc, BK172.out])) : gb183 ≠ gb172)); clear HO_8; clear BK164; clear BK165; clear BK172; clear HB; have HO_8 := n0_; have BK164 := n1_; have BK165 := n2_; have BK172 := n3_; have HB := n4_; have BK183 := n5_; have GW183 := n6_; have GE183 := n7_; have NB164_183 := n8_; have NB183_164 := n9_; have NB165_183 := n10_; have NB183_165 := n11_; have NB172_183 := n12_; have NB183_172 := n13_; clear n0_ n1_ n2_ n3_ n4_ n5_ n6_ n7_ n8_ n9_ n10_ n11_ n12_ n13_; clear hb hbox hg; have hnb34 := NB183_164.out; have hnc34 := NB164_183.out; have hnb35 := NB183_165.out; have hnc35 := NB165_183.out; have hnb36 := NB183_172.out; have hnc36 := NB172_183.out; obtain ⟨hcz37_0, hcz37_1, hcz37_2, hcz37_3, hcz37_4⟩ := blkc19_5 BK183.out; obtain ⟨hfz37_0, hfz37_1, hfz37_2, hfz37_3, hfz37_4⟩ := blkf19_5 BK183.out))
    (try simp only [Act.put, List.setIfInBounds_toArray, List.set_cons_zero, List.set_cons_succ])
    go_cut [58] (fun v58 wc => ∃ (kq : Nat) (x58_21 : Bool), v58 = .bool x58_21 ∧ Aside0 (patch_Code.j1 kq a2 x8_1 t174 ((rd_T44 l0_0 a2).f4) (((rd_T44 l0_0 a2).f4).length : Int) x29_1 x58_21 l1_0 l1_1 a1_2 a1_3 a1_4 ((rd_T46 ((rd_T44 l0_0 a2).f4) x29_1).f0) ((rd_T46 ((rd_T44 l0_0 a2).f4) x29_1).f1) ((rd_T46 ((rd_T44 l0_0 a2).f4) x29_1).f2) ((rd_T46 ((rd_T44 l0_0 a2).f4) x29_1).f3) t177 t178 t179 t180 t181 = some (r1, r2)) ∧ Aside0 (kq ≤ k1) ∧ Aside0 (Kd.R (Kd.int .u32) 47 wc w.heap.size (fun _ => True) (.slice (some ad176) x8_1.length co31) x8_1) ∧ Aside0 (wc.heap[gb164]? = some (.cells #[(.slice (some ad166) l0_0.length c0_0), (.slice A0_1 l0_1.length c0_1), .int .i64 a0_2] 25 (0, 0))) ∧ Aside0 (wc.heap[gb165]? = some (.cells #[(.slice (some ad173) l1_0.length c1_0), (.slice A1_1 l1_1.length c1_1), .int .i64 a1_2, .int .i64 a1_3, .int .i64 a1_4] 30 (0, 0))) ∧ Aside0 (wc.heap[gb172]? = some (.cells #[.int .i64 ((rd_T46 ((rd_T44 l0_0 a2).f4) x29_1).f0), .int .i64 ((rd_T46 ((rd_T44 l0_0 a2).f4) x29_1).f1), .int .i64 ((rd_T46 ((rd_T44 l0_0 a2).f4) x29_1).f2), .int .i64 ((rd_T46 ((rd_T44 l0_0 a2).f4) x29_1).f3)] 46 (0, 0))) ∧ Aside0 (wc.heap[gb183]? = some (.cells #[.int .i64 t177, .int .i64 t178, .int .i64 t179, .int .i64 t180, .int .i64 t181] 49 (0, 0))) ∧ Aside0 (Below w.heap.size w wc))
    case first =>
     have H := HC22.out
     clear HC22
     by_cases c38 : t175 = true
     ·
      subst c38
      rw [if_pos rfl] at H
      have H' := Aside0.mk H
      clear H
      go_wp2
      go_meet
      case rel => exact ⟨_, ((t182 != 0)), (by first | rfl | (simp; done) | (simp [*]; done)), H', ⟨by have := HK1.out; first | omega | exact Nat.le_refl _⟩, ⟨by (with_reducible repeat (first | apply Kd.R_alloc | apply Kd.R_drewN | apply Kd.R_drew)); exact Kd.R_mono (Kd.R_far (p := ⟨gb183, 4, none⟩) (Kd.R_far (p := ⟨gb183, 3, none⟩) (Kd.R_far (p := ⟨gb183, 2, none⟩) (Kd.R_far (p := ⟨gb183, 1, none⟩) (Kd.R_far (p := ⟨gb183, 0, none⟩) (Kd.R_types HO_8.out BK183.out (by decide)) (fun _ hk => hk.2) (.int .i64 t177)) (fun _ hk => hk.2) (.int .i64 t178)) (fun _ hk => hk.2) (.int .i64 t179)) (fun _ hk => hk.2) (.int .i64 t180)) (fun _ hk => hk.2) (.int .i64 t181)) (fun _ hk => trivial)⟩, ⟨by apply_rules (transparency := .reducible) only [blk_drewN, blk_drew, blk_alloc, blk_far, NB164_183.out, BK164.out]⟩, ⟨by apply_rules (transparency := .reducible) only [blk_drewN, blk_drew, blk_alloc, blk_far, NB165_183.out, BK165.out]⟩, ⟨by apply_rules (transparency := .reducible) only [blk_drewN, blk_drew, blk_alloc, blk_far, NB172_183.out, BK172.out]⟩, ⟨by (try apply_rules (transparency := .reducible) only [blk_drewN, blk_drew, blk_alloc]); refine blk_put (cs := #[.int .i64 t177, .int .i64 t178, .int .i64 t179, .int .i64 t180, .int .i64 0]) ?_ 4 _ rfl; refine blk_put (cs := #[.int .i64 t177, .int .i64 t178, .int .i64 t179, .int .i64 0, .int .i64 0]) ?_ 3 _ rfl; refine blk_put (cs := #[.int .i64 t177, .int .i64 t178, .int .i64 0, .int .i64 0, .int .i64 0]) ?_ 2 _ rfl; refine blk_put (cs := #[.int .i64 t177, .int .i64 0, .int .i64 0, .int .i64 0, .int .i64 0]) ?_ 1 _ rfl; refine blk_put (cs := #[.int .i64 0, .int .i64 0, .int .i64 0, .int .i64 0, .int .i64 0]) ?_ 0 _ rfl; (try apply_rules (transparency := .reducible) only [blk_drewN, blk_drew, blk_alloc]); exact BK183.out⟩, ⟨by apply_rules (transparency := .reducible) only [HB.out, below_alloc, pw_below_drewN, below_drew1, below_set, GE164.out, GE165.out, GE172.out, GE183.out]⟩⟩
     ·
      replace c38 := Bool.eq_false_iff.mpr c38
      subst c38
      rw [if_neg Bool.false_ne_true] at H
      have H' := Aside0.mk H
      clear H
      go_wp2
      go_meet
      case rel => exact ⟨_, (true), (by first | rfl | (simp; done) | (simp [*]; done)), H', ⟨by have := HK1.out; first | omega | exact Nat.le_refl _⟩, ⟨by (with_reducible repeat (first | apply Kd.R_alloc | apply Kd.R_drewN | apply Kd.R_drew)); exact Kd.R_mono (Kd.R_far (p := ⟨gb183, 4, none⟩) (Kd.R_far (p := ⟨gb183, 3, none⟩) (Kd.R_far (p := ⟨gb183, 2, none⟩) (Kd.R_far (p := ⟨gb183, 1, none⟩) (Kd.R_far (p := ⟨gb183, 0, none⟩) (Kd.R_types HO_8.out BK183.out (by decide)) (fun _ hk => hk.2) (.int .i64 t177)) (fun _ hk => hk.2) (.int .i64 t178)) (fun _ hk => hk.2) (.int .i64 t179)) (fun _ hk => hk.2) (.int .i64 t180)) (fun _ hk => hk.2) (.int .i64 t181)) (fun _ hk => trivial)⟩, ⟨by apply_rules (transparency := .reducible) only [blk_drewN, blk_drew, blk_alloc, blk_far, NB164_183.out, BK164.out]⟩, ⟨by apply_rules (transparency := .reducible) only [blk_drewN, blk_drew, blk_alloc, blk_far, NB165_183.out, BK165.out]⟩, ⟨by apply_rules (transparency := .reducible) only [blk_drewN, blk_drew, blk_alloc, blk_far, NB172_183.out, BK172.out]⟩, ⟨by (try apply_rules (transparency := .reducible) only [blk_drewN, blk_drew, blk_alloc]); refine blk_put (cs := #[.int .i64 t177, .int .i64 t178, .int .i64 t179, .int .i64 t180, .int .i64 0]) ?_ 4 _ rfl; refine blk_put (cs := #[.int .i64 t177, .int .i64 t178, .int .i64 t179, .int .i64 0, .int .i64 0]) ?_ 3 _ rfl; refine blk_put (cs := #[.int .i64 t177, .int .i64 t178, .int .i64 0, .int .i64 0, .int .i64 0]) ?_ 2 _ rfl; refine blk_put (cs := #[.int .i64 t177, .int .i64 0, .int .i64 0, .int .i64 0, .int .i64 0]) ?_ 1 _ rfl; refine blk_put (cs := #[.int .i64 0, .int .i64 0, .int .i64 0, .int .i64 0, .int .i64 0]) ?_ 0 _ rfl; (try apply_rules (transparency := .reducible) only [blk_drewN, blk_drew, blk_alloc]); exact BK183.out⟩, ⟨by apply_rules (transparency := .reducible) only [HB.out, below_alloc, pw_below_drewN, below_drew1, below_set, GE164.out, GE165.out, GE172.out, GE183.out]⟩⟩
    case rest =>
     clear HC22
     (try clear c1); (try clear p1); (try clear q1); (try clear hx1); (try clear c2); (try clear p2); (try clear c3); (try clear c4); (try clear c4b0); (try clear c5); (try clear c5b0); (try clear c9); (try clear c11); (try clear c13); (try clear c13b0); (try clear c14); (try clear c14b0); (try clear c15); (try clear c15b0); (try clear c16); (try clear c16b0); (try clear p16); (try clear q16); (try clear hx16); (try clear c17); (try clear c17b0); (try clear p17); (try clear q17); (try clear hx17); (try clear c19); (try clear c19b0); (try clear c20); (try clear c20b0); (try clear c24); (try clear c25); (try clear c26); (try clear c27); (try clear c34); (try clear c35); (try clear c36); (try clear c38); (try clear hcz10_0); (try clear hcz10_1); (try clear hcz10_2); (try clear hcz12_0); (try clear hcz12_1); (try clear hcz12_2); (try clear hcz26_0); (try clear hcz26_1); (try clear hcz26_2); (try clear hcz26_3); (try clear hcz30_0); (try clear hcz30_1); (try clear hcz30_2); (try clear hcz30_3); (try clear hcz37_0); (try clear hcz37_1); (try clear hcz37_2); (try clear hcz37_3); (try clear hcz37_4); (try clear hfz10_0); (try clear hfz10_1); (try clear hfz10_2); (try clear hfz12_0); (try clear hfz12_1); (try clear hfz12_2); (try clear hfz26_0); (try clear hfz26_1); (try clear hfz26_2); (try clear hfz26_3); (try clear hfz30_0); (try clear hfz30_1); (try clear hfz30_2); (try clear hfz30_3); (try clear hfz37_0); (try clear hfz37_1); (try clear hfz37_2); (try clear hfz37_3); (try clear hfz37_4); (try clear hx166_0); (try clear hx166_1); (try clear hx166_2); (try clear hx166_3); (try clear hx166_4); (try clear hx170_0); (try clear hx170_1); (try clear hx170_2); (try clear hx170_3); (try clear hx170_4); (try clear hx171_0); (try clear hx171_1); (try clear hx171_2); (try clear hx171_3); (try clear hx173_0); (try clear hx176_0); (try clear p1); (try clear p166); (try clear p170); (try clear p171); (try clear p173); (try clear p176); (try clear p2); (try clear q1); (try clear q166); (try clear q170)
     (try clear q171); (try clear q173); (try clear q176)
     obtain ⟨kq, x58_21, rfl, HA, HJ21, HO_8, BK164, BK165, BK172, BK183, HB⟩ := hcut
     cases kq with
     | zero => exact absurd HA.out (by simp [patch_Code.j1])
     | succ kj21 =>
      have H := HA.out
      clear HA
      simp only [patch_Code.j1] at H
      by_cases c39 : x58_21 = true
      ·
       subst c39
       rw [if_pos rfl] at H
       simp only [Option.some.injEq, Prod.mk.injEq] at H
       obtain ⟨rfl, rfl⟩ := H
       go_wp2
       go_ret2
       exact ⟨_, by first | rfl | (simp [errW_none, errW_some] <;> rfl) | (simp [*, errW_none, errW_some] <;> rfl), by first | exact Kd.R_nil _ _ _ _ _ | exact Kd.N_nil _ _ _ _ _ | exact Kd.V_nil _ _ _ _ _ | exact Kd.Q_nil _ _ _ _ _ | exact Kd.S_nil _ _ _ _ _, by apply_rules (transparency := .reducible) only [HB.out, below_alloc, pw_below_drewN, below_drew1, below_set, GE164.out, GE165.out, GE172.out, GE183.out]⟩
      ·
       replace c39 := Bool.eq_false_iff.mpr c39
       subst c39
       rw [if_neg Bool.false_ne_true] at H
       replace H := Option.bind_eq_some_iff.mp H
       obtain ⟨⟨t184, t185⟩, A400, H⟩ := H
       try dsimp only at H
       have A40 := Aside0.mk A400
       clear A400
       by_cases c41 : 0 ≤ ((rd_T46 ((rd_T44 l0_0 a2).f4) x29_1).f0)
       case neg =>
        rw [if_neg c41] at H
        exact absurd H (by simp)
       rw [if_pos c41] at H
       have c41b0 : decide (0 ≤ ((rd_T46 ((rd_T44 l0_0 a2).f4) x29_1).f0)) = true := decide_eq_true c41
       clear c41
       by_cases c42 : ((rd_T46 ((rd_T44 l0_0 a2).f4) x29_1).f0) < (x8_1.length : Int)
       case neg =>
        rw [if_neg c42] at H
        exact absurd H (by simp)
       rw [if_pos c42] at H
       have c42b0 : decide (((rd_T46 ((rd_T44 l0_0 a2).f4) x29_1).f0) < (x8_1.length : Int)) = true := decide_eq_true c42
       clear c42
       obtain ⟨y186, hy186⟩ : ∃ y_ : List Int, y_ = (x8_1.set (((rd_T46 ((rd_T44 l0_0 a2).f4) x29_1).f0) : Int).toNat t184) := ⟨_, rfl⟩
       (first | rw [Option.bind_some, ← hy186] at H | rw [← hy186] at H | skip)
       have Ny186 := Aside0.mk hy186
       clear hy186
       by_cases c44 : t185 = 0
       ·
        rw [if_pos c44] at H
        have c44b0 : (t185 == 0) = true := beq_iff_eq.mpr c44
        have c44b1 : (t185 != 0) = false := bne_eq_false_iff_eq.mpr c44
        clear c44
        have H' := Aside0.mk H
        clear H
        have hnb45 := NB183_164.out
        have hnc45 := NB164_183.out
        have hnb46 := NB183_165.out
        have hnc46 := NB165_183.out
        have hnb47 := NB183_172.out
        have hnc47 := NB172_183.out
        obtain ⟨hcz48_0, hcz48_1, hcz48_2, hcz48_3, hcz48_4⟩ := blkc19_5 BK183.out
        obtain ⟨hfz48_0, hfz48_1, hfz48_2, hfz48_3, hfz48_4⟩ := blkf19_5 BK183.out
        try go_wp2
        have n0_ : Aside0 (Kd.R (Kd.int .u32) 47 (wc.setCell ⟨gb183, 4, none⟩ (.int .i64 t174)) w.heap.size (fun _ => True) (.slice (some ad176) x8_1.length co31) x8_1) := ⟨by (with_reducible repeat (first | apply Kd.R_alloc | apply Kd.R_drewN | apply Kd.R_drew)); exact Kd.R_mono (Kd.R_far (p := ⟨gb183, 4, none⟩) (Kd.R_types HO_8.out BK183.out (by decide)) (fun _ hk => hk.2) (.int .i64 t174)) (fun _ hk => trivial)⟩
        have n1_ : Aside0 ((wc.setCell ⟨gb183, 4, none⟩ (.int .i64 t174)).heap[gb164]? = some (.cells #[.slice (some ad166) l0_0.length c0_0, .slice A0_1 l0_1.length c0_1, .int .i64 a0_2] 25 (0, 0))) := ⟨by apply_rules (transparency := .reducible) only [blk_drewN, blk_drew, blk_alloc, blk_far, NB164_183.out, BK164.out]⟩
        have n2_ : Aside0 ((wc.setCell ⟨gb183, 4, none⟩ (.int .i64 t174)).heap[gb165]? = some (.cells #[.slice (some ad173) l1_0.length c1_0, .slice A1_1 l1_1.length c1_1, .int .i64 a1_2, .int .i64 a1_3, .int .i64 a1_4] 30 (0, 0))) := ⟨by apply_rules (transparency := .reducible) only [blk_drewN, blk_drew, blk_alloc, blk_far, NB165_183.out, BK165.out]⟩
        have n3_ : Aside0 ((wc.setCell ⟨gb183, 4, none⟩ (.int .i64 t174)).heap[gb172]? = some (.cells #[.int .i64 ((rd_T46 ((rd_T44 l0_0 a2).f4) x29_1).f0), .int .i64 ((rd_T46 ((rd_T44 l0_0 a2).f4) x29_1).f1), .int .i64 ((rd_T46 ((rd_T44 l0_0 a2).f4) x29_1).f2), .int .i64 ((rd_T46 ((rd_T44 l0_0 a2).f4) x29_1).f3)] 46 (0, 0))) := ⟨by apply_rules (transparency := .reducible) only [blk_drewN, blk_drew, blk_alloc, blk_far, NB172_183.out, BK172.out]⟩
        have n4_ : Aside0 ((wc.setCell ⟨gb183, 4, none⟩ (.int .i64 t174)).heap[gb183]? = some (.cells #[.int .i64 t177, .int .i64 t178, .int .i64 t179, .int .i64 t180, .int .i64 t174] 49 (0, 0))) := ⟨by (try apply_rules (transparency := .reducible) only [blk_drewN, blk_drew, blk_alloc]); refine blk_put (cs := #[.int .i64 t177, .int .i64 t178, .int .i64 t179, .int .i64 t180, .int .i64 t181]) ?_ 4 _ rfl; (try apply_rules (transparency := .reducible) only [blk_drewN, blk_drew, blk_alloc]); exact BK183.out⟩
        have n5_ : Aside0 (Below w.heap.size w (wc.setCell ⟨gb183, 4, none⟩ (.int .i64 t174))) := ⟨by apply_rules (transparency := .reducible) only [HB.out, below_alloc, pw_below_drewN, below_drew1, below_set, GE164.out, GE165.out, GE172.out, GE183.out]⟩
        (try clear HO_8)
        (try clear BK164)
        (try clear BK165)
        (try clear BK172)
        (try clear BK183)
        (try clear HB)
        generalize (wc.setCell ⟨gb183, 4, none⟩ (.int .i64 t174)) = w49 at n0_ n1_ n2_ n3_ n4_ n5_ ⊢
        have HO_8 := n0_
        have BK164 := n1_
        have BK165 := n2_
        have BK172 := n3_
        have BK183 := n4_
        have HB := n5_
        clear n0_ n1_ n2_ n3_ n4_ n5_
        have n0_ := Aside0.mk (Kd.R_drew HO_8.out)
        have n1_ := Aside0.mk (blk_drew BK164.out)
        have n2_ := Aside0.mk (blk_drew BK165.out)
        have n3_ := Aside0.mk (blk_drew BK172.out)
        have n4_ := Aside0.mk (blk_drew BK183.out)
        have n5_ := Aside0.mk (below_drew1 HB.out)
        clear HO_8
        clear BK164
        clear BK165
        clear BK172
        clear BK183
        clear HB
        have HO_8 := n0_
        have BK164 := n1_
        have BK165 := n2_
        have BK172 := n3_
        have BK183 := n4_
        have HB := n5_
        clear n0_ n1_ n2_ n3_ n4_ n5_
        refine start_ (n := 11) (S := fun w' => w'.cell? ⟨gb172, 0, none⟩ = some (.int .i64 ((rd_T46 ((rd_T44 l0_0 a2).f4) x29_1).f0)) ∧ w'.cell? ⟨gb172, 1, none⟩ = some (.int .i64 ((rd_T46 ((rd_T44 l0_0 a2).f4) x29_1).f1)) ∧ w'.cell? ⟨gb172, 2, none⟩ = some (.int .i64 ((rd_T46 ((rd_T44 l0_0 a2).f4) x29_1).f2)) ∧ w'.cell? ⟨gb172, 3, none⟩ = some (.int .i64 ((rd_T46 ((rd_T44 l0_0 a2).f4) x29_1).f3)) ∧ w'.cell? ⟨gb183, 0, none⟩ = some (.int .i64 t177) ∧ w'.cell? ⟨gb183, 1, none⟩ = some (.int .i64 t178) ∧ w'.cell? ⟨gb183, 2, none⟩ = some (.int .i64 t179) ∧ w'.cell? ⟨gb183, 3, none⟩ = some (.int .i64 t180) ∧ w'.cell? ⟨gb183, 4, none⟩ = some (.int .i64 t174)) (ds := [9]) #[false, false, false, false, false, false, false, false, false, false, false] (by kernel_rfl) rfl rfl ⟨(blk_cell BK172.out 0).trans rfl, (blk_cell BK172.out 1).trans rfl, (blk_cell BK172.out 2).trans rfl, (blk_cell BK172.out 3).trans rfl, (blk_cell BK183.out 0).trans rfl, (blk_cell BK183.out 1).trans rfl, (blk_cell BK183.out 2).trans rfl, (blk_cell BK183.out 3).trans rfl, (blk_cell BK183.out 4).trans rfl⟩ (fun hHeld => ?_); refine with_tabW patch_Code.tab10 patch_Code.bits10 (fun HT_ HW_ => ?_)
        generalize w49.drew = w50 at HO_8 BK164 BK165 BK172 BK183 HB hHeld ⊢
        refine pure_ (i := 0) (N := some 62) (v := ?_) (a' := ?_) #[true, false, false, false, false, false, false, false, false, false, false] rfl rfl (any_of HT_.out (by kernel_rfl)) (fun _ _ _ h => h) (Or.inl ⟨by rfl, ?_⟩) ?_ ?_
        rotate_left
        ·
         intro w'
         go_simp
         with_reducible rfl
        rotate_left
        ·
         simp only [Act.put, List.setIfInBounds_toArray, List.set_cons_zero, List.set_cons_succ, i64_w, i32_w]
         rfl
        refine pure_ (i := 1) (N := some 63) (v := ?_) (a' := ?_) #[true, true, false, false, false, false, false, false, false, false, false] rfl rfl (any_of HT_.out (by kernel_rfl)) (fun _ _ _ h => h) (Or.inl ⟨by rfl, ?_⟩) ?_ ?_
        rotate_left
        ·
         intro w'
         go_simp
         with_reducible rfl
        rotate_left
        ·
         simp only [Act.put, List.setIfInBounds_toArray, List.set_cons_zero, List.set_cons_succ, i64_w, i32_w]
         rfl
        refine take_ (i := 2) (N := some 64) (v := ?_) (a' := ?_) #[true, true, true, false, false, false, false, false, false, false, false] rfl rfl (take_ofW HT_.out HW_.out (by kernel_rfl)) (fun _ _ _ h => h) (Or.inl ⟨by rfl, ?_⟩) hHeld ?_ ?_
        rotate_left
        ·
         rintro w' ⟨s0, s1, s2, s3, s4, s5, s6, s7, s8⟩
         go_simp
         with_reducible rfl
        rotate_left
        ·
         simp only [Act.put, List.setIfInBounds_toArray, List.set_cons_zero, List.set_cons_succ, i64_w, i32_w]
         rfl
        refine take_ (i := 3) (N := some 65) (v := ?_) (a' := ?_) #[true, true, true, true, false, false, false, false, false, false, false] rfl rfl (take_ofW HT_.out HW_.out (by kernel_rfl)) (fun _ _ _ h => h) (Or.inl ⟨by rfl, ?_⟩) hHeld ?_ ?_
        rotate_left
        ·
         rintro w' ⟨s0, s1, s2, s3, s4, s5, s6, s7, s8⟩
         go_simp
         with_reducible rfl
        rotate_left
        ·
         simp only [Act.put, List.setIfInBounds_toArray, List.set_cons_zero, List.set_cons_succ, i64_w, i32_w]
         rfl
        refine one_ (i := 4) (N := some 66) #[true, true, true, true, true, false, false, false, false, false, false] rfl rfl (one_of HT_.out (by kernel_rfl)) (by decide) (fun K hK => ?_)
        refine goes_ Try.func28 (by kernel_rfl) rfl #[.agg #[.int .i64 t177, .int .i64 t178, .int .i64 t179, .int .i64 t180, .int .i64 t174]] (by rfl) rfl rfl (by (try simp only [List.map_toArray, List.map_cons, List.map_nil]); first | done | rfl | (simp only [List.length_drop, List.length_take]; rfl)) ?_
        with_reducible refine (code_Put.calls kj21 t177 t178 t179 t180 t174 t184 t185 _ A40.out).mono ?_
        rintro e w51 ⟨rfl, hb⟩
        refine ⟨_, rfl, ?_⟩
        have n0_ := Aside0.mk (Kd.R_below (by (with_reducible repeat (first | apply Kd.R_alloc | apply Kd.R_drewN | apply Kd.R_drew)); exact HO_8.out) hb)
        have n1_ := Aside0.mk (blk_below (g := gb164) (o := .cells #[.slice (some ad166) l0_0.length c0_0, .slice A0_1 l0_1.length c0_1, .int .i64 a0_2] 25 (0, 0)) (by apply_rules (transparency := .reducible) only [blk_drewN, blk_drew, blk_alloc, BK164.out]) hb)
        have n2_ := Aside0.mk (blk_below (g := gb165) (o := .cells #[.slice (some ad173) l1_0.length c1_0, .slice A1_1 l1_1.length c1_1, .int .i64 a1_2, .int .i64 a1_3, .int .i64 a1_4] 30 (0, 0)) (by apply_rules (transparency := .reducible) only [blk_drewN, blk_drew, blk_alloc, BK165.out]) hb)
        have n3_ := Aside0.mk (blk_below (g := gb172) (o := .cells #[.int .i64 ((rd_T46 ((rd_T44 l0_0 a2).f4) x29_1).f0), .int .i64 ((rd_T46 ((rd_T44 l0_0 a2).f4) x29_1).f1), .int .i64 ((rd_T46 ((rd_T44 l0_0 a2).f4) x29_1).f2), .int .i64 ((rd_T46 ((rd_T44 l0_0 a2).f4) x29_1).f3)] 46 (0, 0)) (by apply_rules (transparency := .reducible) only [blk_drewN, blk_drew, blk_alloc, BK172.out]) hb)
        have n4_ := Aside0.mk (blk_below (g := gb183) (o := .cells #[.int .i64 t177, .int .i64 t178, .int .i64 t179, .int .i64 t180, .int .i64 t174] 49 (0, 0)) (by apply_rules (transparency := .reducible) only [blk_drewN, blk_drew, blk_alloc, BK183.out]) hb)
        have n5_ := Aside0.mk (below_step (by apply_rules (transparency := .reducible) only [HB.out, below_alloc, pw_below_drewN, below_drew1, below_set, GE164.out, GE165.out, GE172.out, GE183.out]) hb)
        clear HO_8
        clear BK164
        clear BK165
        clear BK172
        clear BK183
        clear HB
        have HO_8 := n0_
        have BK164 := n1_
        have BK165 := n2_
        have BK172 := n3_
        have BK183 := n4_
        have HB := n5_
        clear n0_ n1_ n2_ n3_ n4_ n5_
        (try clear hb)
        (try clear hb2)
        (try clear hk)
        (try clear hi)
        have p43 : 0 ≤ (((rd_T46 ((rd_T44 l0_0 a2).f4) x29_1).f0) : Int) := of_decide_eq_true (by first | (with_reducible assumption) | assumption)
        have q43 : (((rd_T46 ((rd_T44 l0_0 a2).f4) x29_1).f0) : Int) < ((x8_1.length : Int) : Int) := of_decide_eq_true (by first | (with_reducible assumption) | assumption)
        obtain ⟨go43, co43, eo43, gb43, gl43, cl43, HG43⟩ := Kd.R_form HO_8.out (by omega)
        (first | cases eo43 | (injection eo43 with ea_ en_ ec_; (first | subst ea_ | (injection ea_ with ea_; subst ea_)); subst ec_; clear en_))
        have GB43 := Aside0.mk gb43
        have GG43 := Aside0.mk HG43
        clear gb43 gl43 HG43
        (first | simp only [add_plain] at hx176_0 | skip)
        obtain ⟨hx43_0, hf43_0⟩ := Kd.R_celln 0 HO_8.out (((rd_T46 ((rd_T44 l0_0 a2).f4) x29_1).f0) : Int) p43 q43
        replace p43 := eq_true p43
        replace q43 := eq_true q43
        have HP52 := Kd.R_putn HO_8.out (((rd_T46 ((rd_T44 l0_0 a2).f4) x29_1).f0) : Int) t184
        rw [← Ny186.out] at HP52
        have HQ52 := Aside0.mk HP52
        clear HP52
        refine hK.out _ _ ⟨(blk_cell BK172.out 0).trans rfl, (blk_cell BK172.out 1).trans rfl, (blk_cell BK172.out 2).trans rfl, (blk_cell BK172.out 3).trans rfl, (blk_cell BK183.out 0).trans rfl, (blk_cell BK183.out 1).trans rfl, (blk_cell BK183.out 2).trans rfl, (blk_cell BK183.out 3).trans rfl, (blk_cell BK183.out 4).trans rfl⟩ (fun hHeld => ?_)
        clear hK K
        refine norm_ (a' := ?_) ?_ ?_
        rotate_left
        ·
         show Act.put _ (some 66) _ = _
         simp only [Act.put, List.setIfInBounds_toArray, List.set_cons_zero, List.set_cons_succ, i64_w, i32_w]
         rfl
        refine pure_ (i := 5) (N := some 61) (v := ?_) (a' := ?_) #[true, true, true, true, true, true, false, false, false, false, false] rfl rfl (any_of HT_.out (by kernel_rfl)) (fun _ _ _ h => h) (Or.inl ⟨by rfl, ?_⟩) ?_ ?_
        rotate_left
        ·
         intro w'
         go_simp
         with_reducible rfl
        rotate_left
        ·
         simp only [Act.put, List.setIfInBounds_toArray, List.set_cons_zero, List.set_cons_succ, i64_w, i32_w]
         rfl
        refine pure_ (i := 6) (N := some 67) (v := ?_) (a' := ?_) #[true, true, true, true, true, true, true, false, false, false, false] rfl rfl (any_of HT_.out (by kernel_rfl)) (fun _ _ _ h => h) (Or.inl ⟨by rfl, ?_⟩) ?_ ?_
        rotate_left
        ·
         intro w'
         go_simp
         with_reducible rfl
        rotate_left
        ·
         simp only [Act.put, List.setIfInBounds_toArray, List.set_cons_zero, List.set_cons_succ, i64_w, i32_w]
         rfl
        refine pure_ (i := 7) (N := some 68) (v := ?_) (a' := ?_) #[true, true, true, true, true, true, true, true, false, false, false] rfl rfl (any_of HT_.out (by kernel_rfl)) (fun _ _ _ h => h) (Or.inl ⟨by rfl, ?_⟩) ?_ ?_
        rotate_left
        ·
         intro w'
         go_simp
         with_reducible rfl
        rotate_left
        ·
         simp only [Act.put, List.setIfInBounds_toArray, List.set_cons_zero, List.set_cons_succ, i64_w, i32_w]
         rfl
        refine pure_ (i := 8) (N := some 69) (v := ?_) (a' := ?_) #[true, true, true, true, true, true, true, true, true, false, false] rfl rfl (any_of HT_.out (by kernel_rfl)) (fun _ _ _ h => h) (Or.inl ⟨by rfl, ?_⟩) ?_ ?_
        rotate_left
        ·
         intro w'
         go_simp
         with_reducible rfl
        rotate_left
        ·
         simp only [Act.put, List.setIfInBounds_toArray, List.set_cons_zero, List.set_cons_succ, i64_w, i32_w]
         rfl
        refine last_ (i := 9) (N := none) #[true, true, true, true, true, true, true, true, true, true, false] rfl rfl (one_of HT_.out (by kernel_rfl)) (by decide) (fun K hK => ?_)
        refine skip_ (w1 := ?_) (by rfl) rfl ?_ ?_
        rotate_left
        ·
         go_simp
         rfl
        refine hK.out _ _ ?_
        clear hK K
        refine pure_ (i := 10) (N := some 14) (v := ?_) (a' := ?_) #[true, true, true, true, true, true, true, true, true, true, true] rfl rfl (any_of HT_.out (by kernel_rfl)) (fun _ _ _ h => h) (Or.inl ⟨by rfl, ?_⟩) ?_ ?_
        rotate_left
        ·
         intro w'
         go_simp
         with_reducible rfl
        rotate_left
        ·
         simp only [Act.put, List.setIfInBounds_toArray, List.set_cons_zero, List.set_cons_succ, i64_w, i32_w]
         rfl
        refine done_ (done_of HT_.out (by kernel_rfl)) ?_
        try go_wp2
        go_roundg kj21
        case measure => have := HK1.out; have := HJ21.out; omega
        case rel => exact ⟨(y186), (wrap64 (x29_1 + 1)), (by first | rfl | (simp; done) | (simp [*]; done)), H', ⟨by have := HK1.out; have := HJ21.out; omega⟩, ⟨by (with_reducible repeat (first | apply Kd.R_alloc | apply Kd.R_drewN | apply Kd.R_drew)); exact HQ52.out⟩, ⟨by (try apply_rules (transparency := .reducible) only [blk_drewN, blk_drew, blk_alloc]); refine blk_far ?_ (by have h_ := Kd.R_ne HO_8.out BK164.out (by decide); intro e_; exact h_ (by rw [e_]; rfl)) _; (try apply_rules (transparency := .reducible) only [blk_drewN, blk_drew, blk_alloc]); exact BK164.out⟩, ⟨by (try apply_rules (transparency := .reducible) only [blk_drewN, blk_drew, blk_alloc]); refine blk_far ?_ (by have h_ := Kd.R_ne HO_8.out BK165.out (by decide); intro e_; exact h_ (by rw [e_]; rfl)) _; (try apply_rules (transparency := .reducible) only [blk_drewN, blk_drew, blk_alloc]); exact BK165.out⟩, ⟨by repeat (first | (with_reducible first | exact HB.out | apply below_alloc | apply pw_below_drewN | apply below_drew1 | refine below_set ?_ GB43.out | refine below_set ?_ GE164.out | refine below_set ?_ GE165.out | refine below_set ?_ GE172.out | refine below_set ?_ GE183.out) | exact HB.out)⟩⟩
       ·
        rw [if_neg c44] at H
        have c44b0 : (t185 == 0) = false := beq_eq_false_iff_ne.mpr c44
        have c44b1 : (t185 != 0) = true := bne_iff_ne.mpr c44
        simp only [Option.some.injEq, Prod.mk.injEq] at H
        obtain ⟨rfl, rfl⟩ := H
        have hnb53 := NB183_164.out
        have hnc53 := NB164_183.out
        have hnb54 := NB183_165.out
        have hnc54 := NB165_183.out
        have hnb55 := NB183_172.out
        have hnc55 := NB172_183.out
        obtain ⟨hcz56_0, hcz56_1, hcz56_2, hcz56_3, hcz56_4⟩ := blkc19_5 BK183.out
        obtain ⟨hfz56_0, hfz56_1, hfz56_2, hfz56_3, hfz56_4⟩ := blkf19_5 BK183.out
        try go_wp2
        have n0_ : Aside0 (Kd.R (Kd.int .u32) 47 (wc.setCell ⟨gb183, 4, none⟩ (.int .i64 t174)) w.heap.size (fun _ => True) (.slice (some ad176) x8_1.length co31) x8_1) := ⟨by (with_reducible repeat (first | apply Kd.R_alloc | apply Kd.R_drewN | apply Kd.R_drew)); exact Kd.R_mono (Kd.R_far (p := ⟨gb183, 4, none⟩) (Kd.R_types HO_8.out BK183.out (by decide)) (fun _ hk => hk.2) (.int .i64 t174)) (fun _ hk => trivial)⟩
        have n1_ : Aside0 ((wc.setCell ⟨gb183, 4, none⟩ (.int .i64 t174)).heap[gb164]? = some (.cells #[.slice (some ad166) l0_0.length c0_0, .slice A0_1 l0_1.length c0_1, .int .i64 a0_2] 25 (0, 0))) := ⟨by apply_rules (transparency := .reducible) only [blk_drewN, blk_drew, blk_alloc, blk_far, NB164_183.out, BK164.out]⟩
        have n2_ : Aside0 ((wc.setCell ⟨gb183, 4, none⟩ (.int .i64 t174)).heap[gb165]? = some (.cells #[.slice (some ad173) l1_0.length c1_0, .slice A1_1 l1_1.length c1_1, .int .i64 a1_2, .int .i64 a1_3, .int .i64 a1_4] 30 (0, 0))) := ⟨by apply_rules (transparency := .reducible) only [blk_drewN, blk_drew, blk_alloc, blk_far, NB165_183.out, BK165.out]⟩
        have n3_ : Aside0 ((wc.setCell ⟨gb183, 4, none⟩ (.int .i64 t174)).heap[gb172]? = some (.cells #[.int .i64 ((rd_T46 ((rd_T44 l0_0 a2).f4) x29_1).f0), .int .i64 ((rd_T46 ((rd_T44 l0_0 a2).f4) x29_1).f1), .int .i64 ((rd_T46 ((rd_T44 l0_0 a2).f4) x29_1).f2), .int .i64 ((rd_T46 ((rd_T44 l0_0 a2).f4) x29_1).f3)] 46 (0, 0))) := ⟨by apply_rules (transparency := .reducible) only [blk_drewN, blk_drew, blk_alloc, blk_far, NB172_183.out, BK172.out]⟩
        have n4_ : Aside0 ((wc.setCell ⟨gb183, 4, none⟩ (.int .i64 t174)).heap[gb183]? = some (.cells #[.int .i64 t177, .int .i64 t178, .int .i64 t179, .int .i64 t180, .int .i64 t174] 49 (0, 0))) := ⟨by (try apply_rules (transparency := .reducible) only [blk_drewN, blk_drew, blk_alloc]); refine blk_put (cs := #[.int .i64 t177, .int .i64 t178, .int .i64 t179, .int .i64 t180, .int .i64 t181]) ?_ 4 _ rfl; (try apply_rules (transparency := .reducible) only [blk_drewN, blk_drew, blk_alloc]); exact BK183.out⟩
        have n5_ : Aside0 (Below w.heap.size w (wc.setCell ⟨gb183, 4, none⟩ (.int .i64 t174))) := ⟨by apply_rules (transparency := .reducible) only [HB.out, below_alloc, pw_below_drewN, below_drew1, below_set, GE164.out, GE165.out, GE172.out, GE183.out]⟩
        (try clear HO_8)
        (try clear BK164)
        (try clear BK165)
        (try clear BK172)
        (try clear BK183)
        (try clear HB)
        generalize (wc.setCell ⟨gb183, 4, none⟩ (.int .i64 t174)) = w57 at n0_ n1_ n2_ n3_ n4_ n5_ ⊢
        have HO_8 := n0_
        have BK164 := n1_
        have BK165 := n2_
        have BK172 := n3_
        have BK183 := n4_
        have HB := n5_
        clear n0_ n1_ n2_ n3_ n4_ n5_
        have n0_ := Aside0.mk (Kd.R_drew HO_8.out)
        have n1_ := Aside0.mk (blk_drew BK164.out)
        have n2_ := Aside0.mk (blk_drew BK165.out)
        have n3_ := Aside0.mk (blk_drew BK172.out)
        have n4_ := Aside0.mk (blk_drew BK183.out)
        have n5_ := Aside0.mk (below_drew1 HB.out)
        clear HO_8
        clear BK164
        clear BK165
        clear BK172
        clear BK183
        clear HB
        have HO_8 := n0_
        have BK164 := n1_
        have BK165 := n2_
        have BK172 := n3_
        have BK183 := n4_
        have HB := n5_
        clear n0_ n1_ n2_ n3_ n4_ n5_
        refine start_ (n := 11) (S := fun w' => w'.cell? ⟨gb172, 0, none⟩ = some (.int .i64 ((rd_T46 ((rd_T44 l0_0 a2).f4) x29_1).f0)) ∧ w'.cell? ⟨gb172, 1, none⟩ = some (.int .i64 ((rd_T46 ((rd_T44 l0_0 a2).f4) x29_1).f1)) ∧ w'.cell? ⟨gb172, 2, none⟩ = some (.int .i64 ((rd_T46 ((rd_T44 l0_0 a2).f4) x29_1).f2)) ∧ w'.cell? ⟨gb172, 3, none⟩ = some (.int .i64 ((rd_T46 ((rd_T44 l0_0 a2).f4) x29_1).f3)) ∧ w'.cell? ⟨gb183, 0, none⟩ = some (.int .i64 t177) ∧ w'.cell? ⟨gb183, 1, none⟩ = some (.int .i64 t178) ∧ w'.cell? ⟨gb183, 2, none⟩ = some (.int .i64 t179) ∧ w'.cell? ⟨gb183, 3, none⟩ = some (.int .i64 t180) ∧ w'.cell? ⟨gb183, 4, none⟩ = some (.int .i64 t174)) (ds := [9]) #[false, false, false, false, false, false, false, false, false, false, false] (by kernel_rfl) rfl rfl ⟨(blk_cell BK172.out 0).trans rfl, (blk_cell BK172.out 1).trans rfl, (blk_cell BK172.out 2).trans rfl, (blk_cell BK172.out 3).trans rfl, (blk_cell BK183.out 0).trans rfl, (blk_cell BK183.out 1).trans rfl, (blk_cell BK183.out 2).trans rfl, (blk_cell BK183.out 3).trans rfl, (blk_cell BK183.out 4).trans rfl⟩ (fun hHeld => ?_); refine with_tabW patch_Code.tab10 patch_Code.bits10 (fun HT_ HW_ => ?_)
        generalize w57.drew = w58 at HO_8 BK164 BK165 BK172 BK183 HB hHeld ⊢
        refine pure_ (i := 0) (N := some 62) (v := ?_) (a' := ?_) #[true, false, false, false, false, false, false, false, false, false, false] rfl rfl (any_of HT_.out (by kernel_rfl)) (fun _ _ _ h => h) (Or.inl ⟨by rfl, ?_⟩) ?_ ?_
        rotate_left
        ·
         intro w'
         go_simp
         with_reducible rfl
        rotate_left
        ·
         simp only [Act.put, List.setIfInBounds_toArray, List.set_cons_zero, List.set_cons_succ, i64_w, i32_w]
         rfl
        refine pure_ (i := 1) (N := some 63) (v := ?_) (a' := ?_) #[true, true, false, false, false, false, false, false, false, false, false] rfl rfl (any_of HT_.out (by kernel_rfl)) (fun _ _ _ h => h) (Or.inl ⟨by rfl, ?_⟩) ?_ ?_
        rotate_left
        ·
         intro w'
         go_simp
         with_reducible rfl
        rotate_left
        ·
         simp only [Act.put, List.setIfInBounds_toArray, List.set_cons_zero, List.set_cons_succ, i64_w, i32_w]
         rfl
        refine take_ (i := 2) (N := some 64) (v := ?_) (a' := ?_) #[true, true, true, false, false, false, false, false, false, false, false] rfl rfl (take_ofW HT_.out HW_.out (by kernel_rfl)) (fun _ _ _ h => h) (Or.inl ⟨by rfl, ?_⟩) hHeld ?_ ?_
        rotate_left
        ·
         rintro w' ⟨s0, s1, s2, s3, s4, s5, s6, s7, s8⟩
         go_simp
         with_reducible rfl
        rotate_left
        ·
         simp only [Act.put, List.setIfInBounds_toArray, List.set_cons_zero, List.set_cons_succ, i64_w, i32_w]
         rfl
        refine take_ (i := 3) (N := some 65) (v := ?_) (a' := ?_) #[true, true, true, true, false, false, false, false, false, false, false] rfl rfl (take_ofW HT_.out HW_.out (by kernel_rfl)) (fun _ _ _ h => h) (Or.inl ⟨by rfl, ?_⟩) hHeld ?_ ?_
        rotate_left
        ·
         rintro w' ⟨s0, s1, s2, s3, s4, s5, s6, s7, s8⟩
         go_simp
         with_reducible rfl
        rotate_left
        ·
         simp only [Act.put, List.setIfInBounds_toArray, List.set_cons_zero, List.set_cons_succ, i64_w, i32_w]
         rfl
        refine one_ (i := 4) (N := some 66) #[true, true, true, true, true, false, false, false, false, false, false] rfl rfl (one_of HT_.out (by kernel_rfl)) (by decide) (fun K hK => ?_)
        refine goes_ Try.func28 (by kernel_rfl) rfl #[.agg #[.int .i64 t177, .int .i64 t178, .int .i64 t179, .int .i64 t180, .int .i64 t174]] (by rfl) rfl rfl (by (try simp only [List.map_toArray, List.map_cons, List.map_nil]); first | done | rfl | (simp only [List.length_drop, List.length_take]; rfl)) ?_
        with_reducible refine (code_Put.calls kj21 t177 t178 t179 t180 t174 t184 t185 _ A40.out).mono ?_
        rintro e w59 ⟨rfl, hb⟩
        refine ⟨_, rfl, ?_⟩
        have n0_ := Aside0.mk (Kd.R_below (by (with_reducible repeat (first | apply Kd.R_alloc | apply Kd.R_drewN | apply Kd.R_drew)); exact HO_8.out) hb)
        have n1_ := Aside0.mk (blk_below (g := gb164) (o := .cells #[.slice (some ad166) l0_0.length c0_0, .slice A0_1 l0_1.length c0_1, .int .i64 a0_2] 25 (0, 0)) (by apply_rules (transparency := .reducible) only [blk_drewN, blk_drew, blk_alloc, BK164.out]) hb)
        have n2_ := Aside0.mk (blk_below (g := gb165) (o := .cells #[.slice (some ad173) l1_0.length c1_0, .slice A1_1 l1_1.length c1_1, .int .i64 a1_2, .int .i64 a1_3, .int .i64 a1_4] 30 (0, 0)) (by apply_rules (transparency := .reducible) only [blk_drewN, blk_drew, blk_alloc, BK165.out]) hb)
        have n3_ := Aside0.mk (blk_below (g := gb172) (o := .cells #[.int .i64 ((rd_T46 ((rd_T44 l0_0 a2).f4) x29_1).f0), .int .i64 ((rd_T46 ((rd_T44 l0_0 a2).f4) x29_1).f1), .int .i64 ((rd_T46 ((rd_T44 l0_0 a2).f4) x29_1).f2), .int .i64 ((rd_T46 ((rd_T44 l0_0 a2).f4) x29_1).f3)] 46 (0, 0)) (by apply_rules (transparency := .reducible) only [blk_drewN, blk_drew, blk_alloc, BK172.out]) hb)
        have n4_ := Aside0.mk (blk_below (g := gb183) (o := .cells #[.int .i64 t177, .int .i64 t178, .int .i64 t179, .int .i64 t180, .int .i64 t174] 49 (0, 0)) (by apply_rules (transparency := .reducible) only [blk_drewN, blk_drew, blk_alloc, BK183.out]) hb)
        have n5_ := Aside0.mk (below_step (by apply_rules (transparency := .reducible) only [HB.out, below_alloc, pw_below_drewN, below_drew1, below_set, GE164.out, GE165.out, GE172.out, GE183.out]) hb)
        clear HO_8
        clear BK164
        clear BK165
        clear BK172
        clear BK183
        clear HB
        have HO_8 := n0_
        have BK164 := n1_
        have BK165 := n2_
        have BK172 := n3_
        have BK183 := n4_
        have HB := n5_
        clear n0_ n1_ n2_ n3_ n4_ n5_
        (try clear hb)
        (try clear hb2)
        (try clear hk)
        (try clear hi)
        have p43 : 0 ≤ (((rd_T46 ((rd_T44 l0_0 a2).f4) x29_1).f0) : Int) := of_decide_eq_true (by first | (with_reducible assumption) | assumption)
        have q43 : (((rd_T46 ((rd_T44 l0_0 a2).f4) x29_1).f0) : Int) < ((x8_1.length : Int) : Int) := of_decide_eq_true (by first | (with_reducible assumption) | assumption)
        obtain ⟨go43, co43, eo43, gb43, gl43, cl43, HG43⟩ := Kd.R_form HO_8.out (by omega)
        (first | cases eo43 | (injection eo43 with ea_ en_ ec_; (first | subst ea_ | (injection ea_ with ea_; subst ea_)); subst ec_; clear en_))
        have GB43 := Aside0.mk gb43
        have GG43 := Aside0.mk HG43
        clear gb43 gl43 HG43
        obtain ⟨hx43_0, hf43_0⟩ := Kd.R_celln 0 HO_8.out (((rd_T46 ((rd_T44 l0_0 a2).f4) x29_1).f0) : Int) p43 q43
        replace p43 := eq_true p43
        replace q43 := eq_true q43
        have HP60 := Kd.R_putn HO_8.out (((rd_T46 ((rd_T44 l0_0 a2).f4) x29_1).f0) : Int) t184
        rw [← Ny186.out] at HP60
        have HQ60 := Aside0.mk HP60
        clear HP60
        refine hK.out _ _ ⟨(blk_cell BK172.out 0).trans rfl, (blk_cell BK172.out 1).trans rfl, (blk_cell BK172.out 2).trans rfl, (blk_cell BK172.out 3).trans rfl, (blk_cell BK183.out 0).trans rfl, (blk_cell BK183.out 1).trans rfl, (blk_cell BK183.out 2).trans rfl, (blk_cell BK183.out 3).trans rfl, (blk_cell BK183.out 4).trans rfl⟩ (fun hHeld => ?_)
        clear hK K
        refine norm_ (a' := ?_) ?_ ?_
        rotate_left
        ·
         show Act.put _ (some 66) _ = _
         simp only [Act.put, List.setIfInBounds_toArray, List.set_cons_zero, List.set_cons_succ, i64_w, i32_w]
         rfl
        refine pure_ (i := 5) (N := some 61) (v := ?_) (a' := ?_) #[true, true, true, true, true, true, false, false, false, false, false] rfl rfl (any_of HT_.out (by kernel_rfl)) (fun _ _ _ h => h) (Or.inl ⟨by rfl, ?_⟩) ?_ ?_
        rotate_left
        ·
         intro w'
         go_simp
         with_reducible rfl
        rotate_left
        ·
         simp only [Act.put, List.setIfInBounds_toArray, List.set_cons_zero, List.set_cons_succ, i64_w, i32_w]
         rfl
        refine pure_ (i := 6) (N := some 67) (v := ?_) (a' := ?_) #[true, true, true, true, true, true, true, false, false, false, false] rfl rfl (any_of HT_.out (by kernel_rfl)) (fun _ _ _ h => h) (Or.inl ⟨by rfl, ?_⟩) ?_ ?_
        rotate_left
        ·
         intro w'
         go_simp
         with_reducible rfl
        rotate_left
        ·
         simp only [Act.put, List.setIfInBounds_toArray, List.set_cons_zero, List.set_cons_succ, i64_w, i32_w]
         rfl
        refine pure_ (i := 7) (N := some 68) (v := ?_) (a' := ?_) #[true, true, true, true, true, true, true, true, false, false, false] rfl rfl (any_of HT_.out (by kernel_rfl)) (fun _ _ _ h => h) (Or.inl ⟨by rfl, ?_⟩) ?_ ?_
        rotate_left
        ·
         intro w'
         go_simp
         with_reducible rfl
        rotate_left
        ·
         simp only [Act.put, List.setIfInBounds_toArray, List.set_cons_zero, List.set_cons_succ, i64_w, i32_w]
         rfl
        refine pure_ (i := 8) (N := some 69) (v := ?_) (a' := ?_) #[true, true, true, true, true, true, true, true, true, false, false] rfl rfl (any_of HT_.out (by kernel_rfl)) (fun _ _ _ h => h) (Or.inl ⟨by rfl, ?_⟩) ?_ ?_
        rotate_left
        ·
         intro w'
         go_simp
         with_reducible rfl
        rotate_left
        ·
         simp only [Act.put, List.setIfInBounds_toArray, List.set_cons_zero, List.set_cons_succ, i64_w, i32_w]
         rfl
        refine last_ (i := 9) (N := none) #[true, true, true, true, true, true, true, true, true, true, false] rfl rfl (one_of HT_.out (by kernel_rfl)) (by decide) (fun K hK => ?_)
        refine skip_ (w1 := ?_) (by rfl) rfl ?_ ?_
        rotate_left
        ·
         go_simp
         rfl
        refine hK.out _ _ ?_
        clear hK K
        refine pure_ (i := 10) (N := some 14) (v := ?_) (a' := ?_) #[true, true, true, true, true, true, true, true, true, true, true] rfl rfl (any_of HT_.out (by kernel_rfl)) (fun _ _ _ h => h) (Or.inl ⟨by rfl, ?_⟩) ?_ ?_
        rotate_left
        ·
         intro w'
         go_simp
         with_reducible rfl
        rotate_left
        ·
         simp only [Act.put, List.setIfInBounds_toArray, List.set_cons_zero, List.set_cons_succ, i64_w, i32_w]
         rfl
        refine done_ (done_of HT_.out (by kernel_rfl)) ?_
        try go_wp2
        go_ret2
        exact ⟨_, by first | rfl | (simp [errW_none, errW_some] <;> rfl) | (simp [*, errW_none, errW_some] <;> rfl), by first | exact Kd.R_nil _ _ _ _ _ | exact Kd.N_nil _ _ _ _ _ | exact Kd.V_nil _ _ _ _ _ | exact Kd.Q_nil _ _ _ _ _ | exact Kd.S_nil _ _ _ _ _, by repeat (first | (with_reducible first | exact HB.out | apply below_alloc | apply pw_below_drewN | apply below_drew1 | refine below_set ?_ GB43.out | refine below_set ?_ GE164.out | refine below_set ?_ GE165.out | refine below_set ?_ GE172.out | refine below_set ?_ GE183.out) | exact HB.out)⟩
   ·
    rw [if_neg c13] at H
    have c13b0 : decide (x29_1 < (((rd_T44 l0_0 a2).f4).length : Int)) = false := decide_eq_false c13
    clear c13
    simp only [Option.some.injEq, Prod.mk.injEq] at H
    obtain ⟨rfl, rfl⟩ := H
    go_wp2
    go_ret2
    exact ⟨_, by first | rfl | (simp [errW_none, errW_some] <;> rfl) | (simp [*, errW_none, errW_some] <;> rfl), by (with_reducible repeat (first | apply Kd.R_alloc | apply Kd.R_drewN | apply Kd.R_drew)); exact HO_8.out, by apply_rules (transparency := .reducible) only [HB.out, below_alloc, pw_below_drewN, below_drew1, below_set, GE164.out, GE165.out]⟩
end Go.Proofs.Ytdnfofhfllnhiaa.Q
