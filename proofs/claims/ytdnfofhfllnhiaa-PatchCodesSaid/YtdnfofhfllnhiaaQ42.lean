-- Written by drv.py, a program of this session, over the kit's print, out of the translation. Not trusted: Lean checks it.
import Derived.Test.YtdnfofhfllnhiaaQLC
import Derived.Test.YtdnfofhfllnhiaaQD0
import Derived.Test.YtdnfofhfllnhiaaQ19
import Derived.Test.YtdnfofhfllnhiaaQ23
import Derived.Test.YtdnfofhfllnhiaaQ36
import Derived.Test.YtdnfofhfllnhiaaQ40
import Derived.Test.YtdnfofhfllnhiaaQB
import Derived.Test.YtdnfofhfllnhiaaQP
namespace Go.Proofs.Ytdnfofhfllnhiaa.Q
open Go.RowKit Go.Proofs.YtdnfofhfllnhiaaW.PrintWords Go.Proofs.YtdnfofhfllnhiaaW.PrintLast Go.Proofs.YtdnfofhfllnhiaaW.PrintMore
attribute [local go_sem] max2_int min2_int max_two min_two max_three min_three max_four min_four   -- for this text's walks alone
set_option linter.unusedVariables false
set_option linter.unusedSimpArgs false

def splicelaw13_PatchCodes.T9 : Bool × List (List Nat × List Nat) := (true, [([], []), ([], []), ([], []), ([], []), ([2, 3], [2, 3]), ([4], [4]), ([0, 1, 5], [0, 1, 5]), ([6], [6]), ([7], [7]), ([7], [7]), ([8, 6, 0, 1, 2, 3, 4, 5, 6, 7, 8], [8]), ([9, 10, 0, 1, 2, 3, 4, 5, 6, 7, 8, 9, 10], [9])])
def splicelaw13_PatchCodes.B9 : List Nat := [0, 0, 0, 0, 12, 28, 63, 127, 255, 255, 511, 2047]
theorem blkc42_3 {w : World} {g : Nat} {t : TypeId} {v0 v1 v2 : Value} (h : w.heap[g]? = some (.cells #[v0, v1, v2] t (0, 0))) : w.cell? ⟨g, 0, none⟩ = some v0 ∧ w.cell? ⟨g, 1, none⟩ = some v1 ∧ w.cell? ⟨g, 2, none⟩ = some v2 := ⟨(blk_cell h 0).trans rfl, (blk_cell h 1).trans rfl, (blk_cell h 2).trans rfl⟩
theorem blkc42_5 {w : World} {g : Nat} {t : TypeId} {v0 v1 v2 v3 v4 : Value} (h : w.heap[g]? = some (.cells #[v0, v1, v2, v3, v4] t (0, 0))) : w.cell? ⟨g, 0, none⟩ = some v0 ∧ w.cell? ⟨g, 1, none⟩ = some v1 ∧ w.cell? ⟨g, 2, none⟩ = some v2 ∧ w.cell? ⟨g, 3, none⟩ = some v3 ∧ w.cell? ⟨g, 4, none⟩ = some v4 := ⟨(blk_cell h 0).trans rfl, (blk_cell h 1).trans rfl, (blk_cell h 2).trans rfl, (blk_cell h 3).trans rfl, (blk_cell h 4).trans rfl⟩
theorem blkf42_3 {w : World} {g : Nat} {t : TypeId} {cs : Array Value} (h : w.heap[g]? = some (.cells cs t (0, 0))) : w.frozen? ⟨g, 0, none⟩ = false ∧ w.frozen? ⟨g, 1, none⟩ = false ∧ w.frozen? ⟨g, 2, none⟩ = false := ⟨blk_frozen h 0, blk_frozen h 1, blk_frozen h 2⟩
theorem blkf42_5 {w : World} {g : Nat} {t : TypeId} {cs : Array Value} (h : w.heap[g]? = some (.cells cs t (0, 0))) : w.frozen? ⟨g, 0, none⟩ = false ∧ w.frozen? ⟨g, 1, none⟩ = false ∧ w.frozen? ⟨g, 2, none⟩ = false ∧ w.frozen? ⟨g, 3, none⟩ = false ∧ w.frozen? ⟨g, 4, none⟩ = false := ⟨blk_frozen h 0, blk_frozen h 1, blk_frozen h 2, blk_frozen h 3, blk_frozen h 4⟩
theorem splicelaw13_PatchCodes.tab9 : rtab .any (opsOf Try.f3 9) = splicelaw13_PatchCodes.T9 := by kernel_rfl
theorem splicelaw13_PatchCodes.bits9 : waitsOk splicelaw13_PatchCodes.T9.2 splicelaw13_PatchCodes.B9 = true := by kernel_rfl
def splicelaw13_PatchCodes.T10 : Bool × List (List Nat × List Nat) := (true, [([], []), ([], []), ([], []), ([], []), ([2, 3], [2, 3]), ([4], [4]), ([0, 1, 5], [0, 1, 5]), ([6], [6]), ([7], [7]), ([7], [7]), ([8, 6, 0, 1, 2, 3, 4, 5, 6, 7, 8], [8]), ([9, 10, 0, 1, 2, 3, 4, 5, 6, 7, 8, 9, 10], [9])])
def splicelaw13_PatchCodes.B10 : List Nat := [0, 0, 0, 0, 12, 28, 63, 127, 255, 255, 511, 2047]
theorem splicelaw13_PatchCodes.tab10 : rtab .any (opsOf Try.f3 10) = splicelaw13_PatchCodes.T10 := by kernel_rfl
theorem splicelaw13_PatchCodes.bits10 : waitsOk splicelaw13_PatchCodes.T10.2 splicelaw13_PatchCodes.B10 = true := by kernel_rfl
set_option maxHeartbeats 8000000 in
set_option maxRecDepth 100000 in
theorem splicelaw13_PatchCodes.calls (k : Nat) (A0_0 : Option Addr) (c0_0 : Nat) (l0_0 : List (S44)) (A0_1 : Option Addr) (c0_1 : Nat) (l0_1 : List (S55)) (a0_2 : Int) (A1 : Option Addr) (c1 : Nat) (l1 : List Int) (r : Bool) (w : World) (hr0_0 : Kd.C k44 w A0_0 l0_0.length l0_0) (hc0_0 : l0_0.length ≤ c0_0) (hr0_1 : Kd.C k55 w A0_1 l0_1.length l0_1) (hc0_1 : l0_1.length ≤ c0_1) (hr1 : Kd.C (Kd.int .i64) w A1 l1.length l1) (hc1 : l1.length ≤ c1) (h : splicelaw13_PatchCodes.f k l0_0 l0_1 a0_2 l1 = some r) :
    Calls Try.prog 3 #[.agg #[.slice A0_0 l0_0.length c0_0, .slice A0_1 l0_1.length c0_1, .int .i64 a0_2], .slice A1 l1.length c1] w fun e w' => e = .returned (.bool r) ∧ Below w.heap.size w w' := by
 have hu25 := Try.underlying25
 have hu30 := Try.underlying30
 have HR0_0 := Aside0.mk hr0_0
 have HC0_0 := Aside0.mk hc0_0
 clear hr0_0 hc0_0
 have HR0_1 := Aside0.mk hr0_1
 have HC0_1 := Aside0.mk hc0_1
 clear hr0_1 hc0_1
 have HR1 := Aside0.mk hr1
 have HC1 := Aside0.mk hc1
 clear hr1 hc1
 have HB := Aside0.mk (Below.refl w.heap.size w)
 have H : ((splicelaw13_awake.f k).bind fun t313 => (if t313 = true then ((splicelaw13_fine.f k l0_0 l0_1 a0_2 l1).bind fun t314 => (splicelaw13_PatchCodes.j0 k l1 (!t314) l0_0 l0_1 a0_2)) else (splicelaw13_PatchCodes.j0 k l1 true l0_0 l0_1 a0_2))) = some r := h
 clear h
 have HC3 := Aside0.mk H
 clear H
 go_enter Try.func3, Try.ntmps3
 go_upto_region 1 with (first | ((with_reducible refine gate_dst (N := 2) rfl ?_); refine box_event ?hg (N := 2) ?hd (cs := #[.slice A0_0 l0_0.length c0_0, .slice A0_1 l0_1.length c0_1, .int .i64 a0_2]) (t := 25) ?hr ?_; (case hd => rfl); (case hg => rfl); (case hr => first | (go_simp; done) | (go_simp; rfl)); intro gb312 hg w4 hbox hb; have n0_ := Aside0.mk (below_step (by apply_rules (transparency := .reducible) only [HB.out, below_alloc, pw_below_drewN, below_drew1]) hb); have n1_ := Aside0.mk (hbox); have n2_ := Aside0.mk ((by rw [hg]; exact (below_size (by apply_rules (transparency := .reducible) only [HB.out, below_alloc, pw_below_drewN, below_drew1])) : w.heap.size ≤ gb312)); have n3_ := Aside0.mk ((by rw [hg]; exact (below_size (by apply_rules (transparency := .reducible) only [HB.out, below_alloc, pw_below_drewN, below_drew1])) : w.heap.size ≤ gb312)); clear HB; have HB := n0_; have BK312 := n1_; have GW312 := n2_; have GE312 := n3_; clear n0_ n1_ n2_ n3_; clear hb hbox hg))
 (try simp only [Act.put, List.setIfInBounds_toArray, List.set_cons_zero, List.set_cons_succ])
 go_cut [19] (fun v19 wc => ∃ (kq : Nat) (x19_2 : Bool), v19 = .bool x19_2 ∧ Aside0 (splicelaw13_PatchCodes.j0 kq l1 x19_2 l0_0 l0_1 a0_2 = some r) ∧ Aside0 (kq ≤ k) ∧ Aside0 (wc.heap[gb312]? = some (.cells #[(.slice A0_0 l0_0.length c0_0), (.slice A0_1 l0_1.length c0_1), .int .i64 a0_2] 25 (0, 0))) ∧ Aside0 (Below w.heap.size w wc))
 case first =>
  have H := HC3.out
  clear HC3
  replace H := Option.bind_eq_some_iff.mp H
  obtain ⟨t313, A50, H⟩ := H
  try dsimp only at H
  have A5 := Aside0.mk A50
  clear A50
  by_cases c6 : t313 = true
  ·
   subst c6
   rw [if_pos rfl] at H
   replace H := Option.bind_eq_some_iff.mp H
   obtain ⟨t314, A70, H⟩ := H
   try dsimp only at H
   have A7 := Aside0.mk A70
   clear A70
   have H' := Aside0.mk H
   clear H
   go_wp2_with (first | ((with_reducible refine gate_callee (f := 8) rfl ?_); refine goesL_ (some 12) rfl rfl Try.func8 (by kernel_rfl) rfl #[] rfl (by (try simp only [List.map_toArray, List.map_cons, List.map_nil]); first | done | rfl | (simp only [List.length_drop, List.length_take]; rfl)) ?_; (with_reducible refine (splicelaw13_awake.calls k  true _ A5.out).mono ?_); rintro e w8 ⟨rfl, hb⟩; refine ⟨_, rfl, ?_⟩; have n0_ := Aside0.mk (blk_below (g := gb312) (o := .cells #[.slice A0_0 l0_0.length c0_0, .slice A0_1 l0_1.length c0_1, .int .i64 a0_2] 25 (0, 0)) (by apply_rules (transparency := .reducible) only [blk_drewN, blk_drew, blk_alloc, BK312.out]) hb); have n1_ := Aside0.mk (below_step (by apply_rules (transparency := .reducible) only [HB.out, below_alloc, pw_below_drewN, below_drew1, below_set, GE312.out]) hb); clear BK312; clear HB; have BK312 := n0_; have HB := n1_; clear n0_ n1_; (try clear hb); (try clear hb2); (try clear hk); (try clear hi); obtain ⟨hcz9_0, hcz9_1, hcz9_2⟩ := blkc42_3 BK312.out; obtain ⟨hfz9_0, hfz9_1, hfz9_2⟩ := blkf42_3 BK312.out) | (go_at_call 9; (with_reducible refine (splicelaw13_fine.calls k _ _ l0_0 _ _ l0_1 a0_2 _ _ l1 t314 _ ?side1 ?side2 ?side3 ?side4 ?side5 ?side6 A7.out).mono ?_); (case side1 => repeat (first | exact (Kd.C_below HR0_0.out HB.out) | (with_reducible refine Kd.C_alloc ?_ _) | (with_reducible refine Kd.C_drewN ?_ _) | (with_reducible refine Kd.C_drew ?_))); (case side2 => exact HC0_0.out); (case side3 => repeat (first | exact (Kd.C_below HR0_1.out HB.out) | (with_reducible refine Kd.C_alloc ?_ _) | (with_reducible refine Kd.C_drewN ?_ _) | (with_reducible refine Kd.C_drew ?_))); (case side4 => exact HC0_1.out); (case side5 => repeat (first | exact (Kd.C_below HR1.out HB.out) | (with_reducible refine Kd.C_alloc ?_ _) | (with_reducible refine Kd.C_drewN ?_ _) | (with_reducible refine Kd.C_drew ?_))); (case side6 => exact HC1.out); rintro e w10 ⟨rfl, hb⟩; have n0_ := Aside0.mk (blk_below (g := gb312) (o := .cells #[.slice A0_0 l0_0.length c0_0, .slice A0_1 l0_1.length c0_1, .int .i64 a0_2] 25 (0, 0)) (by apply_rules (transparency := .reducible) only [blk_drewN, blk_drew, blk_alloc, BK312.out]) hb); have n1_ := Aside0.mk (below_step (by apply_rules (transparency := .reducible) only [HB.out, below_alloc, pw_below_drewN, below_drew1, below_set, GE312.out]) hb); clear BK312; clear HB; have BK312 := n0_; have HB := n1_; clear n0_ n1_; (try clear hb); (try clear hb2); (try clear hk); (try clear hi)))
   go_meet
   case rel => exact ⟨_, (!t314), (by first | rfl | (simp; done) | (simp [*]; done)), H', ⟨by first | omega | exact Nat.le_refl _⟩, ⟨by apply_rules (transparency := .reducible) only [blk_drewN, blk_drew, blk_alloc, BK312.out]⟩, ⟨by apply_rules (transparency := .reducible) only [HB.out, below_alloc, pw_below_drewN, below_drew1, below_set, GE312.out]⟩⟩
  ·
   replace c6 := Bool.eq_false_iff.mpr c6
   subst c6
   rw [if_neg Bool.false_ne_true] at H
   have H' := Aside0.mk H
   clear H
   go_wp2_with (first | ((with_reducible refine gate_callee (f := 8) rfl ?_); refine goesL_ (some 12) rfl rfl Try.func8 (by kernel_rfl) rfl #[] rfl (by (try simp only [List.map_toArray, List.map_cons, List.map_nil]); first | done | rfl | (simp only [List.length_drop, List.length_take]; rfl)) ?_; (with_reducible refine (splicelaw13_awake.calls k  false _ A5.out).mono ?_); rintro e w11 ⟨rfl, hb⟩; refine ⟨_, rfl, ?_⟩; have n0_ := Aside0.mk (blk_below (g := gb312) (o := .cells #[.slice A0_0 l0_0.length c0_0, .slice A0_1 l0_1.length c0_1, .int .i64 a0_2] 25 (0, 0)) (by apply_rules (transparency := .reducible) only [blk_drewN, blk_drew, blk_alloc, BK312.out]) hb); have n1_ := Aside0.mk (below_step (by apply_rules (transparency := .reducible) only [HB.out, below_alloc, pw_below_drewN, below_drew1, below_set, GE312.out]) hb); clear BK312; clear HB; have BK312 := n0_; have HB := n1_; clear n0_ n1_; (try clear hb); (try clear hb2); (try clear hk); (try clear hi)))
   go_meet
   case rel => exact ⟨_, (true), (by first | rfl | (simp; done) | (simp [*]; done)), H', ⟨by first | omega | exact Nat.le_refl _⟩, ⟨by apply_rules (transparency := .reducible) only [blk_drewN, blk_drew, blk_alloc, BK312.out]⟩, ⟨by apply_rules (transparency := .reducible) only [HB.out, below_alloc, pw_below_drewN, below_drew1, below_set, GE312.out]⟩⟩
 case rest =>
  clear HC3
  (try clear c1); (try clear p2); (try clear c3); (try clear c6); (try clear c8); (try clear hcz9_0); (try clear hcz9_1); (try clear hcz9_2); (try clear hfz9_0); (try clear hfz9_1); (try clear hfz9_2)
  obtain ⟨kq, x19_2, rfl, HA, HJ2, BK312, HB⟩ := hcut
  cases kq with
  | zero => exact absurd HA.out (by simp [splicelaw13_PatchCodes.j0])
  | succ kj2 =>
   have H := HA.out
   clear HA
   simp only [splicelaw13_PatchCodes.j0] at H
   by_cases c12 : x19_2 = true
   ·
    subst c12
    rw [if_pos rfl] at H
    replace H := Option.bind_eq_some_iff.mp H
    obtain ⟨t315, A130, H⟩ := H
    replace H : (some t315) = some r := H
    have A13 := Aside0.mk A130
    clear A130
    obtain rfl := Option.some.inj H
    go_wp2_with (first | ((with_reducible refine gate_callee (f := 8) rfl ?_); refine goesL_ (some 20) rfl rfl Try.func8 (by kernel_rfl) rfl #[] rfl (by (try simp only [List.map_toArray, List.map_cons, List.map_nil]); first | done | rfl | (simp only [List.length_drop, List.length_take]; rfl)) ?_; (with_reducible refine (splicelaw13_awake.calls kj2  t315 _ A13.out).mono ?_); rintro e w14 ⟨rfl, hb⟩; refine ⟨_, rfl, ?_⟩; have n0_ := Aside0.mk (blk_below (g := gb312) (o := .cells #[.slice A0_0 l0_0.length c0_0, .slice A0_1 l0_1.length c0_1, .int .i64 a0_2] 25 (0, 0)) (by apply_rules (transparency := .reducible) only [blk_drewN, blk_drew, blk_alloc, BK312.out]) hb); have n1_ := Aside0.mk (below_step (by apply_rules (transparency := .reducible) only [HB.out, below_alloc, pw_below_drewN, below_drew1, below_set, GE312.out]) hb); clear BK312; clear HB; have BK312 := n0_; have HB := n1_; clear n0_ n1_; (try clear hb); (try clear hb2); (try clear hk); (try clear hi)))
    go_ret
    exact ⟨by first | rfl | (simp [errW_none, errW_some] <;> rfl) | (simp [*, errW_none, errW_some] <;> rfl), by apply_rules (transparency := .reducible) only [HB.out, below_alloc, pw_below_drewN, below_drew1, below_set, GE312.out]⟩
   ·
    replace c12 := Bool.eq_false_iff.mpr c12
    subst c12
    rw [if_neg Bool.false_ne_true] at H
    replace H := Option.bind_eq_some_iff.mp H
    obtain ⟨⟨t316, t319, t322, t323, t324, t325⟩, A150, H⟩ := H
    try dsimp only at H
    have A15 := Aside0.mk A150
    clear A150
    by_cases c16 : t325 = 0
    ·
     rw [if_pos c16] at H
     have c16b0 : (t325 == 0) = true := beq_iff_eq.mpr c16
     have c16b1 : (t325 != 0) = false := bne_eq_false_iff_eq.mpr c16
     clear c16
     have H' := Aside0.mk H
     clear H
     obtain ⟨hcz17_0, hcz17_1, hcz17_2⟩ := blkc42_3 BK312.out
     obtain ⟨hfz17_0, hfz17_1, hfz17_2⟩ := blkf42_3 BK312.out
     go_wp2_with (first | ((with_reducible refine gate_callee (f := 10) rfl ?_); refine goesL_ (some 24) rfl rfl Try.func10 (by kernel_rfl) rfl #[.agg #[.slice A0_0 l0_0.length c0_0, .slice A0_1 l0_1.length c0_1, .int .i64 a0_2], .slice A1 l1.length c1] rfl (by (try simp only [List.map_toArray, List.map_cons, List.map_nil]); first | done | rfl | (simp only [List.length_drop, List.length_take]; rfl)) ?_; (with_reducible refine (place_Plan.calls kj2 _ _ l0_0 _ _ l0_1 a0_2 _ _ l1 t316 t319 t322 t323 t324 t325 _ ?side1 ?side2 ?side3 ?side4 ?side5 ?side6 A15.out).mono ?_); (case side1 => repeat (first | exact (Kd.C_below HR0_0.out HB.out) | (with_reducible refine Kd.C_alloc ?_ _) | (with_reducible refine Kd.C_drewN ?_ _) | (with_reducible refine Kd.C_drew ?_))); (case side2 => exact HC0_0.out); (case side3 => repeat (first | exact (Kd.C_below HR0_1.out HB.out) | (with_reducible refine Kd.C_alloc ?_ _) | (with_reducible refine Kd.C_drewN ?_ _) | (with_reducible refine Kd.C_drew ?_))); (case side4 => exact HC0_1.out); (case side5 => repeat (first | exact (Kd.C_below HR1.out HB.out) | (with_reducible refine Kd.C_alloc ?_ _) | (with_reducible refine Kd.C_drewN ?_ _) | (with_reducible refine Kd.C_drew ?_))); (case side6 => exact HC1.out); rintro e w18 ⟨v317, v320, rfl, ho0, ho1, hb⟩; refine ⟨_, rfl, ?_⟩; have n0_ := Aside0.mk (Kd.R_lower ho0 (below_size (by apply_rules (transparency := .reducible) only [HB.out, below_alloc, pw_below_drewN, below_drew1, below_set, GE312.out]))); have n1_ := Aside0.mk (Kd.R_lower ho1 (below_size (by apply_rules (transparency := .reducible) only [HB.out, below_alloc, pw_below_drewN, below_drew1, below_set, GE312.out]))); have n2_ := Aside0.mk (blk_below (g := gb312) (o := .cells #[.slice A0_0 l0_0.length c0_0, .slice A0_1 l0_1.length c0_1, .int .i64 a0_2] 25 (0, 0)) (by apply_rules (transparency := .reducible) only [blk_drewN, blk_drew, blk_alloc, BK312.out]) hb); have n3_ := Aside0.mk (below_step (by apply_rules (transparency := .reducible) only [HB.out, below_alloc, pw_below_drewN, below_drew1, below_set, GE312.out]) hb); clear BK312; clear HB; have HO318 := n0_; have HO321 := n1_; have BK312 := n2_; have HB := n3_; clear n0_ n1_ n2_ n3_; (try clear hb); (try clear hb2); (try clear hk); (try clear hi); (try clear ho0); (try clear ho1)) | ((with_reducible refine gate_dst (N := 5) rfl ?_); refine box_event ?hg (N := 5) ?hd (cs := #[.slice none 0 0, .slice none 0 0, .int .i64 0, .int .i64 0, .int .i64 0]) (t := 30) ?hr ?_; (case hd => rfl); (case hg => rfl); (case hr => first | (go_simp; done) | (go_simp; rfl)); intro gb326 hg w19 hbox hb; have n0_ := Aside0.mk (Kd.R_below (by (with_reducible repeat (first | apply Kd.R_alloc | apply Kd.R_drewN | apply Kd.R_drew)); exact HO318.out) hb); have n1_ := Aside0.mk (Kd.R_below (by (with_reducible repeat (first | apply Kd.R_alloc | apply Kd.R_drewN | apply Kd.R_drew)); exact HO321.out) hb); have n2_ := Aside0.mk (blk_below (g := gb312) (o := .cells #[.slice A0_0 l0_0.length c0_0, .slice A0_1 l0_1.length c0_1, .int .i64 a0_2] 25 (0, 0)) (by apply_rules (transparency := .reducible) only [blk_drewN, blk_drew, blk_alloc, BK312.out]) hb); have n3_ := Aside0.mk (below_step (by apply_rules (transparency := .reducible) only [HB.out, below_alloc, pw_below_drewN, below_drew1, below_set, GE312.out]) hb); have n4_ := Aside0.mk (hbox); have n5_ := Aside0.mk ((by rw [hg]; exact (below_size (by apply_rules (transparency := .reducible) only [HB.out, below_alloc, pw_below_drewN, below_drew1, below_set, GE312.out])) : w.heap.size ≤ gb326)); have n6_ := Aside0.mk ((by rw [hg]; exact (below_size (by apply_rules (transparency := .reducible) only [HB.out, below_alloc, pw_below_drewN, below_drew1, below_set, GE312.out])) : w.heap.size ≤ gb326)); have n7_ := Aside0.mk ((by rw [hg]; exact Nat.ne_of_lt (blk_lt (g := gb312) (o := .cells #[.slice A0_0 l0_0.length c0_0, .slice A0_1 l0_1.length c0_1, .int .i64 a0_2] 25 (0, 0)) (by apply_rules (transparency := .reducible) only [blk_drewN, blk_drew, blk_alloc, BK312.out])) : gb312 ≠ gb326)); have n8_ := Aside0.mk ((by rw [hg]; exact Nat.ne_of_gt (blk_lt (g := gb312) (o := .cells #[.slice A0_0 l0_0.length c0_0, .slice A0_1 l0_1.length c0_1, .int .i64 a0_2] 25 (0, 0)) (by apply_rules (transparency := .reducible) only [blk_drewN, blk_drew, blk_alloc, BK312.out])) : gb326 ≠ gb312)); clear HO318; clear HO321; clear BK312; clear HB; have HO318 := n0_; have HO321 := n1_; have BK312 := n2_; have HB := n3_; have BK326 := n4_; have GW326 := n5_; have GE326 := n6_; have NB312_326 := n7_; have NB326_312 := n8_; clear n0_ n1_ n2_ n3_ n4_ n5_ n6_ n7_ n8_; clear hb hbox hg; obtain ⟨Ao20, co20, eo20⟩ := Kd.R_slice HO318.out; subst eo20; have hnb21 := NB326_312.out; have hnc21 := NB312_326.out; obtain ⟨hcz22_0, hcz22_1, hcz22_2, hcz22_3, hcz22_4⟩ := blkc42_5 BK326.out; obtain ⟨hfz22_0, hfz22_1, hfz22_2, hfz22_3, hfz22_4⟩ := blkf42_5 BK326.out; obtain ⟨Ao23, co23, eo23⟩ := Kd.R_slice HO321.out; subst eo23))
     go_loopg [7] kj2 (fun kq v7 w' => ∃ (x7_2 : Int), v7 = .int .i64 x7_2 ∧ Aside0 (splicelaw13_PatchCodes.l0 kq l1 x7_2 l0_0 l0_1 a0_2 t316 t319 t322 t323 t324 = some r) ∧ Aside0 (kq ≤ kj2) ∧ Aside0 (Kd.R (Kd.int .i64) 3 w' w.heap.size (fun k_ => some k_ ≠ ((.slice Ao23 t319.length co23) : Value).ownBlock) (.slice Ao20 t316.length co20) t316) ∧ Aside0 (Kd.R (Kd.int .i64) 3 w' w.heap.size (fun k_ => some k_ ≠ ((.slice Ao20 t316.length co20) : Value).ownBlock) (.slice Ao23 t319.length co23) t319) ∧ Aside0 (w'.heap[gb312]? = some (.cells #[(.slice A0_0 l0_0.length c0_0), (.slice A0_1 l0_1.length c0_1), .int .i64 a0_2] 25 (0, 0))) ∧ Aside0 (w'.heap[gb326]? = some (.cells #[(.slice Ao20 t316.length co20), (.slice Ao23 t319.length co23), .int .i64 t322, .int .i64 t323, .int .i64 t324] 30 (0, 0))) ∧ Aside0 (Below w.heap.size w w'))
     case atStart => exact ⟨(0), (by first | rfl | (simp; done) | (simp [*]; done)), H', ⟨Nat.le_refl _⟩, ⟨by (with_reducible repeat (first | apply Kd.R_alloc | apply Kd.R_drewN | apply Kd.R_drew)); exact Kd.R_mono (Kd.R_far (p := ⟨gb326, 4, none⟩) (Kd.R_far (p := ⟨gb326, 3, none⟩) (Kd.R_far (p := ⟨gb326, 2, none⟩) (Kd.R_far (p := ⟨gb326, 1, none⟩) (Kd.R_far (p := ⟨gb326, 0, none⟩) (Kd.R_types HO318.out BK326.out (by decide)) (fun _ hk => hk.2) (.slice Ao20 t316.length co20)) (fun _ hk => hk.2) (.slice Ao23 t319.length co23)) (fun _ hk => hk.2) (.int .i64 t322)) (fun _ hk => hk.2) (.int .i64 t323)) (fun _ hk => hk.2) (.int .i64 t324)) (fun _ hk => hk.1)⟩, ⟨by (with_reducible repeat (first | apply Kd.R_alloc | apply Kd.R_drewN | apply Kd.R_drew)); exact Kd.R_mono (Kd.R_far (p := ⟨gb326, 4, none⟩) (Kd.R_far (p := ⟨gb326, 3, none⟩) (Kd.R_far (p := ⟨gb326, 2, none⟩) (Kd.R_far (p := ⟨gb326, 1, none⟩) (Kd.R_far (p := ⟨gb326, 0, none⟩) (Kd.R_types HO321.out BK326.out (by decide)) (fun _ hk => hk.2) (.slice Ao20 t316.length co20)) (fun _ hk => hk.2) (.slice Ao23 t319.length co23)) (fun _ hk => hk.2) (.int .i64 t322)) (fun _ hk => hk.2) (.int .i64 t323)) (fun _ hk => hk.2) (.int .i64 t324)) (fun _ hk => hk.1)⟩, ⟨by apply_rules (transparency := .reducible) only [blk_drewN, blk_drew, blk_alloc, blk_far, NB312_326.out, BK312.out]⟩, ⟨by (try apply_rules (transparency := .reducible) only [blk_drewN, blk_drew, blk_alloc]); refine blk_put (cs := #[.slice Ao20 t316.length co20, .slice Ao23 t319.length co23, .int .i64 t322, .int .i64 t323, .int .i64 0]) ?_ 4 _ rfl; refine blk_put (cs := #[.slice Ao20 t316.length co20, .slice Ao23 t319.length co23, .int .i64 t322, .int .i64 0, .int .i64 0]) ?_ 3 _ rfl; refine blk_put (cs := #[.slice Ao20 t316.length co20, .slice Ao23 t319.length co23, .int .i64 0, .int .i64 0, .int .i64 0]) ?_ 2 _ rfl; refine blk_put (cs := #[.slice Ao20 t316.length co20, .slice none 0 0, .int .i64 0, .int .i64 0, .int .i64 0]) ?_ 1 _ rfl; refine blk_put (cs := #[.slice none 0 0, .slice none 0 0, .int .i64 0, .int .i64 0, .int .i64 0]) ?_ 0 _ rfl; (try apply_rules (transparency := .reducible) only [blk_drewN, blk_drew, blk_alloc]); exact BK326.out⟩, ⟨by apply_rules (transparency := .reducible) only [HB.out, below_alloc, pw_below_drewN, below_drew1, below_set, GE312.out, GE326.out]⟩⟩
     case round =>
      clear H'
      (try clear c1); (try clear c2); (try clear p2); (try clear c3); (try clear c6); (try clear c8); (try clear c10); (try clear c12); (try clear c16); (try clear c16b0); (try clear c16b1); (try clear c21); (try clear hcz17_0); (try clear hcz17_1); (try clear hcz17_2); (try clear hcz22_0); (try clear hcz22_1); (try clear hcz22_2); (try clear hcz22_3); (try clear hcz22_4); (try clear hcz9_0); (try clear hcz9_1); (try clear hcz9_2); (try clear hfz17_0); (try clear hfz17_1); (try clear hfz17_2); (try clear hfz22_0); (try clear hfz22_1); (try clear hfz22_2); (try clear hfz22_3); (try clear hfz22_4); (try clear hfz9_0); (try clear hfz9_1); (try clear hfz9_2); (try clear p2)
      obtain ⟨x7_2, rfl, HA, HK2, HO_327000, HO_327001, BK312, BK326, HB⟩ := hrel
      cases gk with
      | zero => exact absurd HA.out (by simp [splicelaw13_PatchCodes.l0])
      | succ k2 =>
       have H := HA.out
       clear HA
       simp only [splicelaw13_PatchCodes.l0] at H
       by_cases c24 : x7_2 < (l1.length : Int)
       ·
        rw [if_pos c24] at H
        have c24b0 : decide (x7_2 < (l1.length : Int)) = true := decide_eq_true c24
        clear c24
        by_cases c25 : 0 ≤ x7_2
        case neg =>
         rw [if_neg c25] at H
         exact absurd H (by simp)
        rw [if_pos c25] at H
        have c25b0 : decide (0 ≤ x7_2) = true := decide_eq_true c25
        clear c25
        replace H := Option.bind_eq_some_iff.mp H
        obtain ⟨⟨t328, t331⟩, A260, H⟩ := H
        try dsimp only at H
        have A26 := Aside0.mk A260
        clear A260
        replace H := Option.bind_eq_some_iff.mp H
        obtain ⟨⟨t333, t336⟩, A270, H⟩ := H
        try dsimp only at H
        have A27 := Aside0.mk A270
        clear A270
        by_cases c28 : t331 = t336
        case neg =>
         rw [if_neg c28] at H
         exact absurd H (by simp)
        rw [if_pos c28] at H
        have c28b0 : (t331 == t336) = true := beq_iff_eq.mpr c28
        have c28b1 : (t331 != t336) = false := bne_eq_false_iff_eq.mpr c28
        clear c28
        replace H := Option.bind_eq_some_iff.mp H
        obtain ⟨t337, A290, H⟩ := H
        try dsimp only at H
        have A29 := Aside0.mk A290
        clear A290
        by_cases c30 : t337 = true
        case neg =>
         replace c30 := Bool.eq_false_iff.mpr c30
         subst c30
         rw [if_neg Bool.false_ne_true] at H
         exact absurd H (by simp)
        subst c30
        rw [if_pos rfl] at H
        have H' := Aside0.mk H
        clear H
        try go_wp2
        have n0_ := Aside0.mk (Kd.R_drew HO_327000.out)
        have n1_ := Aside0.mk (Kd.R_drew HO_327001.out)
        have n2_ := Aside0.mk (blk_drew BK312.out)
        have n3_ := Aside0.mk (blk_drew BK326.out)
        have n4_ := Aside0.mk (below_drew1 HB.out)
        clear HO_327000
        clear HO_327001
        clear BK312
        clear BK326
        clear HB
        have HO_327000 := n0_
        have HO_327001 := n1_
        have BK312 := n2_
        have BK326 := n3_
        have HB := n4_
        clear n0_ n1_ n2_ n3_ n4_
        have p327 : 0 ≤ (x7_2 : Int) := of_decide_eq_true (by first | (with_reducible assumption) | assumption)
        have q327 : x7_2 < (l1.length : Int) := of_decide_eq_true (by first | (with_reducible assumption) | assumption)
        obtain ⟨ad327, e327, hx327_0⟩ := Kd.at_int HR1.out x7_2 p327 q327
        have hw327_0 := hx327_0
        cases e327
        replace hx327_0 := (HB.out.cell (World.block_lt_of_cell? w _ hx327_0)).trans hx327_0
        replace p327 := eq_true p327
        replace q327 := eq_true q327
        refine start_ (n := 12) (S := fun w' => w'.cell? ⟨gb312, 0, none⟩ = some (.slice A0_0 l0_0.length c0_0) ∧ w'.cell? ⟨gb312, 1, none⟩ = some (.slice A0_1 l0_1.length c0_1) ∧ w'.cell? ⟨gb312, 2, none⟩ = some (.int .i64 a0_2) ∧ w'.cell? ⟨gb326, 0, none⟩ = some (.slice Ao20 t316.length co20) ∧ w'.cell? ⟨gb326, 1, none⟩ = some (.slice Ao23 t319.length co23) ∧ w'.cell? ⟨gb326, 2, none⟩ = some (.int .i64 t322) ∧ w'.cell? ⟨gb326, 3, none⟩ = some (.int .i64 t323) ∧ w'.cell? ⟨gb326, 4, none⟩ = some (.int .i64 t324) ∧ w'.cell? (ad327.add (x7_2).toNat) = some (.int .i64 (rd l1 x7_2))) (ds := []) #[false, false, false, false, false, false, false, false, false, false, false, false] (by kernel_rfl) rfl rfl ⟨(blk_cell BK312.out 0).trans rfl, (blk_cell BK312.out 1).trans rfl, (blk_cell BK312.out 2).trans rfl, (blk_cell BK326.out 0).trans rfl, (blk_cell BK326.out 1).trans rfl, (blk_cell BK326.out 2).trans rfl, (blk_cell BK326.out 3).trans rfl, (blk_cell BK326.out 4).trans rfl, ((HB.out.cell (World.block_lt_of_cell? w _ hw327_0)).trans hw327_0)⟩ (fun hHeld => ?_); refine with_tabW splicelaw13_PatchCodes.tab9 splicelaw13_PatchCodes.bits9 (fun HT_ HW_ => ?_)
        generalize wr.drew = w31 at HO_327000 HO_327001 BK312 BK326 HB hx327_0 hHeld ⊢
        refine pure_ (i := 2) (N := some 38) (v := ?_) (a' := ?_) #[false, false, true, false, false, false, false, false, false, false, false, false] rfl rfl (any_of HT_.out (by kernel_rfl)) (fun _ _ _ h => h) (Or.inl ⟨by rfl, ?_⟩) ?_ ?_
        rotate_left
        ·
         intro w'
         go_simp
         with_reducible rfl
        rotate_left
        ·
         simp only [Act.put, List.setIfInBounds_toArray, List.set_cons_zero, List.set_cons_succ, i64_w, i32_w]
         rfl
        refine pure_ (i := 3) (N := some 39) (v := ?_) (a' := ?_) #[false, false, true, true, false, false, false, false, false, false, false, false] rfl rfl (any_of HT_.out (by kernel_rfl)) (fun _ _ _ h => h) (Or.inl ⟨by rfl, ?_⟩) ?_ ?_
        rotate_left
        ·
         intro w'
         go_simp
         with_reducible rfl
        rotate_left
        ·
         simp only [Act.put, List.setIfInBounds_toArray, List.set_cons_zero, List.set_cons_succ, i64_w, i32_w]
         rfl
        refine pure_ (i := 4) (N := some 40) (v := ?_) (a' := ?_) #[false, false, true, true, true, false, false, false, false, false, false, false] rfl rfl (any_of HT_.out (by kernel_rfl)) (fun _ _ _ h => h) (Or.inl ⟨by rfl, ?_⟩) ?_ ?_
        rotate_left
        ·
         intro w'
         go_simp
         with_reducible rfl
        rotate_left
        ·
         simp only [Act.put, List.setIfInBounds_toArray, List.set_cons_zero, List.set_cons_succ, i64_w, i32_w]
         rfl
        refine take_ (i := 0) (N := some 36) (v := ?_) (a' := ?_) #[true, false, true, true, true, false, false, false, false, false, false, false] rfl rfl (take_ofW HT_.out HW_.out (by kernel_rfl)) (fun _ _ _ h => h) (Or.inl ⟨by rfl, ?_⟩) hHeld ?_ ?_
        rotate_left
        ·
         rintro w' ⟨s0, s1, s2, s3, s4, s5, s6, s7, s8⟩
         go_simp
         with_reducible rfl
        rotate_left
        ·
         simp only [Act.put, List.setIfInBounds_toArray, List.set_cons_zero, List.set_cons_succ, i64_w, i32_w]
         rfl
        refine take_ (i := 1) (N := some 37) (v := ?_) (a' := ?_) #[true, true, true, true, true, false, false, false, false, false, false, false] rfl rfl (take_ofW HT_.out HW_.out (by kernel_rfl)) (fun _ _ _ h => h) (Or.inl ⟨by rfl, ?_⟩) hHeld ?_ ?_
        rotate_left
        ·
         rintro w' ⟨s0, s1, s2, s3, s4, s5, s6, s7, s8⟩
         go_simp
         with_reducible rfl
        rotate_left
        ·
         simp only [Act.put, List.setIfInBounds_toArray, List.set_cons_zero, List.set_cons_succ, i64_w, i32_w]
         rfl
        refine take_ (i := 5) (N := some 41) (v := ?_) (a' := ?_) #[true, true, true, true, true, true, false, false, false, false, false, false] rfl rfl (take_ofW HT_.out HW_.out (by kernel_rfl)) (fun _ _ _ h => h) (Or.inl ⟨by rfl, ?_⟩) hHeld ?_ ?_
        rotate_left
        ·
         rintro w' ⟨s0, s1, s2, s3, s4, s5, s6, s7, s8⟩
         go_simp
         with_reducible rfl
        rotate_left
        ·
         simp only [Act.put, List.setIfInBounds_toArray, List.set_cons_zero, List.set_cons_succ, i64_w, i32_w]
         rfl
        refine one_ (i := 6) (N := some 42) #[true, true, true, true, true, true, true, false, false, false, false, false] rfl rfl (one_of HT_.out (by kernel_rfl)) (by decide) (fun K hK => ?_)
        refine goes_ Try.func11 (by kernel_rfl) rfl #[.agg #[.slice A0_0 l0_0.length c0_0, .slice A0_1 l0_1.length c0_1, .int .i64 a0_2], .agg #[.slice Ao20 t316.length co20, .slice Ao23 t319.length co23, .int .i64 t322, .int .i64 t323, .int .i64 t324], .int .i64 (rd l1 x7_2)] (by rfl) rfl rfl (by (try simp only [List.map_toArray, List.map_cons, List.map_nil]); first | done | rfl | (simp only [List.length_drop, List.length_take]; rfl)) ?_
        with_reducible refine (patch_Code.calls k2 _ _ l0_0 _ _ l0_1 a0_2 _ _ t316 _ _ t319 t322 t323 t324 (rd l1 x7_2) t328 t331 _ ?side1 ?side2 ?side3 ?side4 ?side5 ?side6 ?side7 ?side8 A26.out).mono ?_
        (case side1 => repeat (first | exact (Kd.C_below HR0_0.out HB.out) | (with_reducible refine Kd.C_alloc ?_ _) | (with_reducible refine Kd.C_drewN ?_ _) | (with_reducible refine Kd.C_drew ?_)))
        (case side2 => exact HC0_0.out)
        (case side3 => repeat (first | exact (Kd.C_below HR0_1.out HB.out) | (with_reducible refine Kd.C_alloc ?_ _) | (with_reducible refine Kd.C_drewN ?_ _) | (with_reducible refine Kd.C_drew ?_)))
        (case side4 => exact HC0_1.out)
        (case side5 => repeat (first | exact (Kd.R_reads' HO_327000.out).2.2 | (with_reducible refine Kd.C_alloc ?_ _) | (with_reducible refine Kd.C_drewN ?_ _) | (with_reducible refine Kd.C_drew ?_)))
        (case side6 => exact (Kd.R_reads' HO_327000.out).2.1)
        (case side7 => repeat (first | exact (Kd.R_reads' HO_327001.out).2.2 | (with_reducible refine Kd.C_alloc ?_ _) | (with_reducible refine Kd.C_drewN ?_ _) | (with_reducible refine Kd.C_drew ?_)))
        (case side8 => exact (Kd.R_reads' HO_327001.out).2.1)
        rintro e w32 ⟨v329, rfl, ho0, hb⟩
        refine ⟨_, rfl, ?_⟩
        have n0_ := Aside0.mk (Kd.R_below (by (with_reducible repeat (first | apply Kd.R_alloc | apply Kd.R_drewN | apply Kd.R_drew)); exact HO_327000.out) hb)
        have n1_ := Aside0.mk (Kd.R_below (by (with_reducible repeat (first | apply Kd.R_alloc | apply Kd.R_drewN | apply Kd.R_drew)); exact HO_327001.out) hb)
        have n2_ := Aside0.mk (Kd.R_lower ho0 (below_size (by apply_rules (transparency := .reducible) only [HB.out, below_alloc, pw_below_drewN, below_drew1, below_set, GE312.out, GE326.out])))
        have n3_ := Aside0.mk (blk_below (g := gb312) (o := .cells #[.slice A0_0 l0_0.length c0_0, .slice A0_1 l0_1.length c0_1, .int .i64 a0_2] 25 (0, 0)) (by apply_rules (transparency := .reducible) only [blk_drewN, blk_drew, blk_alloc, BK312.out]) hb)
        have n4_ := Aside0.mk (blk_below (g := gb326) (o := .cells #[.slice Ao20 t316.length co20, .slice Ao23 t319.length co23, .int .i64 t322, .int .i64 t323, .int .i64 t324] 30 (0, 0)) (by apply_rules (transparency := .reducible) only [blk_drewN, blk_drew, blk_alloc, BK326.out]) hb)
        have n5_ := Aside0.mk (below_step (by apply_rules (transparency := .reducible) only [HB.out, below_alloc, pw_below_drewN, below_drew1, below_set, GE312.out, GE326.out]) hb)
        clear HO_327000
        clear HO_327001
        clear BK312
        clear BK326
        clear HB
        have HO_327000 := n0_
        have HO_327001 := n1_
        have HO330 := n2_
        have BK312 := n3_
        have BK326 := n4_
        have HB := n5_
        clear n0_ n1_ n2_ n3_ n4_ n5_
        (try clear hb)
        (try clear hb2)
        (try clear hk)
        (try clear hi)
        (try clear ho0)
        refine hK.out _ _ ⟨(blk_cell BK312.out 0).trans rfl, (blk_cell BK312.out 1).trans rfl, (blk_cell BK312.out 2).trans rfl, (blk_cell BK326.out 0).trans rfl, (blk_cell BK326.out 1).trans rfl, (blk_cell BK326.out 2).trans rfl, (blk_cell BK326.out 3).trans rfl, (blk_cell BK326.out 4).trans rfl, ((HB.out.cell (World.block_lt_of_cell? w _ hw327_0)).trans hw327_0)⟩ (fun hHeld => ?_)
        clear hK K
        refine norm_ (a' := ?_) ?_ ?_
        rotate_left
        ·
         show Act.put _ (some 42) _ = _
         simp only [Act.put, List.setIfInBounds_toArray, List.set_cons_zero, List.set_cons_succ, i64_w, i32_w]
         rfl
        refine pure_ (i := 7) (N := some 35) (v := ?_) (a' := ?_) #[true, true, true, true, true, true, true, true, false, false, false, false] rfl rfl (any_of HT_.out (by kernel_rfl)) (fun _ _ _ h => h) (Or.inl ⟨by rfl, ?_⟩) ?_ ?_
        rotate_left
        ·
         intro w'
         go_simp
         with_reducible rfl
        rotate_left
        ·
         simp only [Act.put, List.setIfInBounds_toArray, List.set_cons_zero, List.set_cons_succ, i64_w, i32_w]
         rfl
        refine pure_ (i := 8) (N := some 43) (v := ?_) (a' := ?_) #[true, true, true, true, true, true, true, true, true, false, false, false] rfl rfl (any_of HT_.out (by kernel_rfl)) (fun _ _ _ h => h) (Or.inl ⟨by rfl, ?_⟩) ?_ ?_
        rotate_left
        ·
         intro w'
         go_simp
         with_reducible rfl
        rotate_left
        ·
         simp only [Act.put, List.setIfInBounds_toArray, List.set_cons_zero, List.set_cons_succ, i64_w, i32_w]
         rfl
        refine pure_ (i := 9) (N := some 44) (v := ?_) (a' := ?_) #[true, true, true, true, true, true, true, true, true, true, false, false] rfl rfl (any_of HT_.out (by kernel_rfl)) (fun _ _ _ h => h) (Or.inl ⟨by rfl, ?_⟩) ?_ ?_
        rotate_left
        ·
         intro w'
         go_simp
         with_reducible rfl
        rotate_left
        ·
         simp only [Act.put, List.setIfInBounds_toArray, List.set_cons_zero, List.set_cons_succ, i64_w, i32_w]
         rfl
        refine pure_ (i := 10) (N := some 8) (v := ?_) (a' := ?_) #[true, true, true, true, true, true, true, true, true, true, true, false] rfl rfl (any_of HT_.out (by kernel_rfl)) (fun _ _ _ h => h) (Or.inl ⟨by rfl, ?_⟩) ?_ ?_
        rotate_left
        ·
         intro w'
         go_simp
         with_reducible rfl
        rotate_left
        ·
         simp only [Act.put, List.setIfInBounds_toArray, List.set_cons_zero, List.set_cons_succ, i64_w, i32_w]
         rfl
        refine pure_ (i := 11) (N := some 9) (v := ?_) (a' := ?_) #[true, true, true, true, true, true, true, true, true, true, true, true] rfl rfl (any_of HT_.out (by kernel_rfl)) (fun _ _ _ h => h) (Or.inl ⟨by rfl, ?_⟩) ?_ ?_
        rotate_left
        ·
         intro w'
         go_simp
         with_reducible rfl
        rotate_left
        ·
         simp only [Act.put, List.setIfInBounds_toArray, List.set_cons_zero, List.set_cons_succ, i64_w, i32_w]
         rfl
        refine done_ (done_of HT_.out (by kernel_rfl)) ?_
        try go_wp2
        have n0_ := Aside0.mk (Kd.R_drew HO_327000.out)
        have n1_ := Aside0.mk (Kd.R_drew HO_327001.out)
        have n2_ := Aside0.mk (Kd.R_drew HO330.out)
        have n3_ := Aside0.mk (blk_drew BK312.out)
        have n4_ := Aside0.mk (blk_drew BK326.out)
        have n5_ := Aside0.mk (below_drew1 HB.out)
        clear HO_327000
        clear HO_327001
        clear HO330
        clear BK312
        clear BK326
        clear HB
        have HO_327000 := n0_
        have HO_327001 := n1_
        have HO330 := n2_
        have BK312 := n3_
        have BK326 := n4_
        have HB := n5_
        clear n0_ n1_ n2_ n3_ n4_ n5_
        have p332 : 0 ≤ (x7_2 : Int) := of_decide_eq_true (by first | (with_reducible assumption) | assumption)
        have q332 : x7_2 < (l1.length : Int) := of_decide_eq_true (by first | (with_reducible assumption) | assumption)
        obtain ⟨ad332, e332, hx332_0⟩ := Kd.at_int HR1.out x7_2 p332 q332
        have hw332_0 := hx332_0
        obtain rfl : ad327 = ad332 := (by injection e332)
        replace hx332_0 := (HB.out.cell (World.block_lt_of_cell? w _ hx332_0)).trans hx332_0
        replace p332 := eq_true p332
        replace q332 := eq_true q332
        refine start_ (n := 12) (S := fun w' => w'.cell? ⟨gb312, 0, none⟩ = some (.slice A0_0 l0_0.length c0_0) ∧ w'.cell? ⟨gb312, 1, none⟩ = some (.slice A0_1 l0_1.length c0_1) ∧ w'.cell? ⟨gb312, 2, none⟩ = some (.int .i64 a0_2) ∧ w'.cell? ⟨gb326, 0, none⟩ = some (.slice Ao20 t316.length co20) ∧ w'.cell? ⟨gb326, 1, none⟩ = some (.slice Ao23 t319.length co23) ∧ w'.cell? ⟨gb326, 2, none⟩ = some (.int .i64 t322) ∧ w'.cell? ⟨gb326, 3, none⟩ = some (.int .i64 t323) ∧ w'.cell? ⟨gb326, 4, none⟩ = some (.int .i64 t324) ∧ w'.cell? (ad327.add (x7_2).toNat) = some (.int .i64 (rd l1 x7_2))) (ds := []) #[false, false, false, false, false, false, false, false, false, false, false, false] (by kernel_rfl) rfl rfl ⟨(blk_cell BK312.out 0).trans rfl, (blk_cell BK312.out 1).trans rfl, (blk_cell BK312.out 2).trans rfl, (blk_cell BK326.out 0).trans rfl, (blk_cell BK326.out 1).trans rfl, (blk_cell BK326.out 2).trans rfl, (blk_cell BK326.out 3).trans rfl, (blk_cell BK326.out 4).trans rfl, ((HB.out.cell (World.block_lt_of_cell? w _ hw332_0)).trans hw332_0)⟩ (fun hHeld => ?_); refine with_tabW splicelaw13_PatchCodes.tab10 splicelaw13_PatchCodes.bits10 (fun HT_ HW_ => ?_)
        generalize w32.drew = w33 at HO_327000 HO_327001 HO330 BK312 BK326 HB hx332_0 hHeld ⊢
        refine pure_ (i := 2) (N := some 48) (v := ?_) (a' := ?_) #[false, false, true, false, false, false, false, false, false, false, false, false] rfl rfl (any_of HT_.out (by kernel_rfl)) (fun _ _ _ h => h) (Or.inl ⟨by rfl, ?_⟩) ?_ ?_
        rotate_left
        ·
         intro w'
         go_simp
         with_reducible rfl
        rotate_left
        ·
         simp only [Act.put, List.setIfInBounds_toArray, List.set_cons_zero, List.set_cons_succ, i64_w, i32_w]
         rfl
        refine pure_ (i := 3) (N := some 49) (v := ?_) (a' := ?_) #[false, false, true, true, false, false, false, false, false, false, false, false] rfl rfl (any_of HT_.out (by kernel_rfl)) (fun _ _ _ h => h) (Or.inl ⟨by rfl, ?_⟩) ?_ ?_
        rotate_left
        ·
         intro w'
         go_simp
         with_reducible rfl
        rotate_left
        ·
         simp only [Act.put, List.setIfInBounds_toArray, List.set_cons_zero, List.set_cons_succ, i64_w, i32_w]
         rfl
        refine pure_ (i := 4) (N := some 50) (v := ?_) (a' := ?_) #[false, false, true, true, true, false, false, false, false, false, false, false] rfl rfl (any_of HT_.out (by kernel_rfl)) (fun _ _ _ h => h) (Or.inl ⟨by rfl, ?_⟩) ?_ ?_
        rotate_left
        ·
         intro w'
         go_simp
         with_reducible rfl
        rotate_left
        ·
         simp only [Act.put, List.setIfInBounds_toArray, List.set_cons_zero, List.set_cons_succ, i64_w, i32_w]
         rfl
        refine take_ (i := 0) (N := some 46) (v := ?_) (a' := ?_) #[true, false, true, true, true, false, false, false, false, false, false, false] rfl rfl (take_ofW HT_.out HW_.out (by kernel_rfl)) (fun _ _ _ h => h) (Or.inl ⟨by rfl, ?_⟩) hHeld ?_ ?_
        rotate_left
        ·
         rintro w' ⟨s0, s1, s2, s3, s4, s5, s6, s7, s8⟩
         go_simp
         with_reducible rfl
        rotate_left
        ·
         simp only [Act.put, List.setIfInBounds_toArray, List.set_cons_zero, List.set_cons_succ, i64_w, i32_w]
         rfl
        refine take_ (i := 1) (N := some 47) (v := ?_) (a' := ?_) #[true, true, true, true, true, false, false, false, false, false, false, false] rfl rfl (take_ofW HT_.out HW_.out (by kernel_rfl)) (fun _ _ _ h => h) (Or.inl ⟨by rfl, ?_⟩) hHeld ?_ ?_
        rotate_left
        ·
         rintro w' ⟨s0, s1, s2, s3, s4, s5, s6, s7, s8⟩
         go_simp
         with_reducible rfl
        rotate_left
        ·
         simp only [Act.put, List.setIfInBounds_toArray, List.set_cons_zero, List.set_cons_succ, i64_w, i32_w]
         rfl
        refine take_ (i := 5) (N := some 51) (v := ?_) (a' := ?_) #[true, true, true, true, true, true, false, false, false, false, false, false] rfl rfl (take_ofW HT_.out HW_.out (by kernel_rfl)) (fun _ _ _ h => h) (Or.inl ⟨by rfl, ?_⟩) hHeld ?_ ?_
        rotate_left
        ·
         rintro w' ⟨s0, s1, s2, s3, s4, s5, s6, s7, s8⟩
         go_simp
         with_reducible rfl
        rotate_left
        ·
         simp only [Act.put, List.setIfInBounds_toArray, List.set_cons_zero, List.set_cons_succ, i64_w, i32_w]
         rfl
        refine one_ (i := 6) (N := some 52) #[true, true, true, true, true, true, true, false, false, false, false, false] rfl rfl (one_of HT_.out (by kernel_rfl)) (by decide) (fun K hK => ?_)
        refine goes_ Try.func12 (by kernel_rfl) rfl #[.agg #[.slice A0_0 l0_0.length c0_0, .slice A0_1 l0_1.length c0_1, .int .i64 a0_2], .agg #[.slice Ao20 t316.length co20, .slice Ao23 t319.length co23, .int .i64 t322, .int .i64 t323, .int .i64 t324], .int .i64 (rd l1 x7_2)] (by rfl) rfl rfl (by (try simp only [List.map_toArray, List.map_cons, List.map_nil]); first | done | rfl | (simp only [List.length_drop, List.length_take]; rfl)) ?_
        with_reducible refine (spliceref13_Code.calls k2 _ _ l0_0 _ _ l0_1 a0_2 _ _ t316 _ _ t319 t322 t323 t324 (rd l1 x7_2) t333 t336 _ ?side1 ?side2 ?side3 ?side4 ?side5 ?side6 ?side7 ?side8 A27.out).mono ?_
        (case side1 => repeat (first | exact (Kd.C_below HR0_0.out HB.out) | (with_reducible refine Kd.C_alloc ?_ _) | (with_reducible refine Kd.C_drewN ?_ _) | (with_reducible refine Kd.C_drew ?_)))
        (case side2 => exact HC0_0.out)
        (case side3 => repeat (first | exact (Kd.C_below HR0_1.out HB.out) | (with_reducible refine Kd.C_alloc ?_ _) | (with_reducible refine Kd.C_drewN ?_ _) | (with_reducible refine Kd.C_drew ?_)))
        (case side4 => exact HC0_1.out)
        (case side5 => repeat (first | exact (Kd.R_reads' HO_327000.out).2.2 | (with_reducible refine Kd.C_alloc ?_ _) | (with_reducible refine Kd.C_drewN ?_ _) | (with_reducible refine Kd.C_drew ?_)))
        (case side6 => exact (Kd.R_reads' HO_327000.out).2.1)
        (case side7 => repeat (first | exact (Kd.R_reads' HO_327001.out).2.2 | (with_reducible refine Kd.C_alloc ?_ _) | (with_reducible refine Kd.C_drewN ?_ _) | (with_reducible refine Kd.C_drew ?_)))
        (case side8 => exact (Kd.R_reads' HO_327001.out).2.1)
        rintro e w34 ⟨v334, rfl, ho0, hb⟩
        refine ⟨_, rfl, ?_⟩
        have n0_ := Aside0.mk (Kd.R_below (by (with_reducible repeat (first | apply Kd.R_alloc | apply Kd.R_drewN | apply Kd.R_drew)); exact HO_327000.out) hb)
        have n1_ := Aside0.mk (Kd.R_below (by (with_reducible repeat (first | apply Kd.R_alloc | apply Kd.R_drewN | apply Kd.R_drew)); exact HO_327001.out) hb)
        have n2_ := Aside0.mk (Kd.R_elder' (by (with_reducible repeat (first | apply Kd.R_alloc | apply Kd.R_drewN | apply Kd.R_drew)); exact HO330.out) (Kd.R_base ho0) hb)
        have n3_ := Aside0.mk (Kd.R_lower (Kd.R_new' ho0 (Kd.R_lt (by (with_reducible repeat (first | apply Kd.R_alloc | apply Kd.R_drewN | apply Kd.R_drew)); exact HO330.out))) (below_size (by apply_rules (transparency := .reducible) only [HB.out, below_alloc, pw_below_drewN, below_drew1, below_set, GE312.out, GE326.out])))
        have n4_ := Aside0.mk (blk_below (g := gb312) (o := .cells #[.slice A0_0 l0_0.length c0_0, .slice A0_1 l0_1.length c0_1, .int .i64 a0_2] 25 (0, 0)) (by apply_rules (transparency := .reducible) only [blk_drewN, blk_drew, blk_alloc, BK312.out]) hb)
        have n5_ := Aside0.mk (blk_below (g := gb326) (o := .cells #[.slice Ao20 t316.length co20, .slice Ao23 t319.length co23, .int .i64 t322, .int .i64 t323, .int .i64 t324] 30 (0, 0)) (by apply_rules (transparency := .reducible) only [blk_drewN, blk_drew, blk_alloc, BK326.out]) hb)
        have n6_ := Aside0.mk (below_step (by apply_rules (transparency := .reducible) only [HB.out, below_alloc, pw_below_drewN, below_drew1, below_set, GE312.out, GE326.out]) hb)
        clear HO_327000
        clear HO_327001
        clear HO330
        clear BK312
        clear BK326
        clear HB
        have HO_327000 := n0_
        have HO_327001 := n1_
        have HO330 := n2_
        have HO335 := n3_
        have BK312 := n4_
        have BK326 := n5_
        have HB := n6_
        clear n0_ n1_ n2_ n3_ n4_ n5_ n6_
        (try clear hb)
        (try clear hb2)
        (try clear hk)
        (try clear hi)
        (try clear ho0)
        refine hK.out _ _ ⟨(blk_cell BK312.out 0).trans rfl, (blk_cell BK312.out 1).trans rfl, (blk_cell BK312.out 2).trans rfl, (blk_cell BK326.out 0).trans rfl, (blk_cell BK326.out 1).trans rfl, (blk_cell BK326.out 2).trans rfl, (blk_cell BK326.out 3).trans rfl, (blk_cell BK326.out 4).trans rfl, ((HB.out.cell (World.block_lt_of_cell? w _ hw332_0)).trans hw332_0)⟩ (fun hHeld => ?_)
        clear hK K
        refine norm_ (a' := ?_) ?_ ?_
        rotate_left
        ·
         show Act.put _ (some 52) _ = _
         simp only [Act.put, List.setIfInBounds_toArray, List.set_cons_zero, List.set_cons_succ, i64_w, i32_w]
         rfl
        refine pure_ (i := 7) (N := some 45) (v := ?_) (a' := ?_) #[true, true, true, true, true, true, true, true, false, false, false, false] rfl rfl (any_of HT_.out (by kernel_rfl)) (fun _ _ _ h => h) (Or.inl ⟨by rfl, ?_⟩) ?_ ?_
        rotate_left
        ·
         intro w'
         go_simp
         with_reducible rfl
        rotate_left
        ·
         simp only [Act.put, List.setIfInBounds_toArray, List.set_cons_zero, List.set_cons_succ, i64_w, i32_w]
         rfl
        refine pure_ (i := 8) (N := some 53) (v := ?_) (a' := ?_) #[true, true, true, true, true, true, true, true, true, false, false, false] rfl rfl (any_of HT_.out (by kernel_rfl)) (fun _ _ _ h => h) (Or.inl ⟨by rfl, ?_⟩) ?_ ?_
        rotate_left
        ·
         intro w'
         go_simp
         with_reducible rfl
        rotate_left
        ·
         simp only [Act.put, List.setIfInBounds_toArray, List.set_cons_zero, List.set_cons_succ, i64_w, i32_w]
         rfl
        refine pure_ (i := 9) (N := some 54) (v := ?_) (a' := ?_) #[true, true, true, true, true, true, true, true, true, true, false, false] rfl rfl (any_of HT_.out (by kernel_rfl)) (fun _ _ _ h => h) (Or.inl ⟨by rfl, ?_⟩) ?_ ?_
        rotate_left
        ·
         intro w'
         go_simp
         with_reducible rfl
        rotate_left
        ·
         simp only [Act.put, List.setIfInBounds_toArray, List.set_cons_zero, List.set_cons_succ, i64_w, i32_w]
         rfl
        refine pure_ (i := 10) (N := some 10) (v := ?_) (a' := ?_) #[true, true, true, true, true, true, true, true, true, true, true, false] rfl rfl (any_of HT_.out (by kernel_rfl)) (fun _ _ _ h => h) (Or.inl ⟨by rfl, ?_⟩) ?_ ?_
        rotate_left
        ·
         intro w'
         go_simp
         with_reducible rfl
        rotate_left
        ·
         simp only [Act.put, List.setIfInBounds_toArray, List.set_cons_zero, List.set_cons_succ, i64_w, i32_w]
         rfl
        refine pure_ (i := 11) (N := some 11) (v := ?_) (a' := ?_) #[true, true, true, true, true, true, true, true, true, true, true, true] rfl rfl (any_of HT_.out (by kernel_rfl)) (fun _ _ _ h => h) (Or.inl ⟨by rfl, ?_⟩) ?_ ?_
        rotate_left
        ·
         intro w'
         go_simp
         with_reducible rfl
        rotate_left
        ·
         simp only [Act.put, List.setIfInBounds_toArray, List.set_cons_zero, List.set_cons_succ, i64_w, i32_w]
         rfl
        refine done_ (done_of HT_.out (by kernel_rfl)) ?_
        obtain ⟨Ao35, co35, eo35⟩ := Kd.R_slice HO330.out
        subst eo35
        obtain ⟨Ao36, co36, eo36⟩ := Kd.R_slice HO335.out
        subst eo36
        try go_wp2_with (first | (go_at_call 13; (with_reducible refine (spliceref01_Words.calls k2 _ _ t328 _ _ t333 true _ ?side1 ?side2 ?side3 ?side4 A29.out).mono ?_); (case side1 => repeat (first | exact (Kd.R_reads' HO330.out).2.2 | (with_reducible refine Kd.C_alloc ?_ _) | (with_reducible refine Kd.C_drewN ?_ _) | (with_reducible refine Kd.C_drew ?_))); (case side2 => exact (Kd.R_reads' HO330.out).2.1); (case side3 => repeat (first | exact (Kd.R_reads' HO335.out).2.2 | (with_reducible refine Kd.C_alloc ?_ _) | (with_reducible refine Kd.C_drewN ?_ _) | (with_reducible refine Kd.C_drew ?_))); (case side4 => exact (Kd.R_reads' HO335.out).2.1); rintro e w' ⟨rfl, ⟨nd, rfl⟩⟩))
        go_roundg k2
        case measure => have := HJ2.out; have := HK2.out; omega
        case rel => exact ⟨(wrap64 (x7_2 + 1)), (by first | rfl | (simp; done) | (simp [*]; done)), H', ⟨by have := HJ2.out; have := HK2.out; omega⟩, ⟨by (with_reducible repeat (first | apply Kd.R_alloc | apply Kd.R_drewN | apply Kd.R_drew)); exact HO_327000.out⟩, ⟨by (with_reducible repeat (first | apply Kd.R_alloc | apply Kd.R_drewN | apply Kd.R_drew)); exact HO_327001.out⟩, ⟨by apply_rules (transparency := .reducible) only [blk_drewN, blk_drew, blk_alloc, BK312.out]⟩, ⟨by apply_rules (transparency := .reducible) only [blk_drewN, blk_drew, blk_alloc, BK326.out]⟩, ⟨by apply_rules (transparency := .reducible) only [HB.out, below_alloc, pw_below_drewN, below_drew1, below_set, GE312.out, GE326.out]⟩⟩
       ·
        rw [if_neg c24] at H
        have c24b0 : decide (x7_2 < (l1.length : Int)) = false := decide_eq_false c24
        clear c24
        obtain rfl := Option.some.inj H
        go_wp2
        go_ret
        exact ⟨by first | rfl | (simp [errW_none, errW_some] <;> rfl) | (simp [*, errW_none, errW_some] <;> rfl), by apply_rules (transparency := .reducible) only [HB.out, below_alloc, pw_below_drewN, below_drew1, below_set, GE312.out, GE326.out]⟩
    ·
     rw [if_neg c16] at H
     have c16b0 : (t325 == 0) = false := beq_eq_false_iff_ne.mpr c16
     have c16b1 : (t325 != 0) = true := bne_iff_ne.mpr c16
     obtain rfl := Option.some.inj H
     obtain ⟨hcz37_0, hcz37_1, hcz37_2⟩ := blkc42_3 BK312.out
     obtain ⟨hfz37_0, hfz37_1, hfz37_2⟩ := blkf42_3 BK312.out
     go_wp2_with (first | ((with_reducible refine gate_callee (f := 10) rfl ?_); refine goesL_ (some 24) rfl rfl Try.func10 (by kernel_rfl) rfl #[.agg #[.slice A0_0 l0_0.length c0_0, .slice A0_1 l0_1.length c0_1, .int .i64 a0_2], .slice A1 l1.length c1] rfl (by (try simp only [List.map_toArray, List.map_cons, List.map_nil]); first | done | rfl | (simp only [List.length_drop, List.length_take]; rfl)) ?_; (with_reducible refine (place_Plan.calls kj2 _ _ l0_0 _ _ l0_1 a0_2 _ _ l1 t316 t319 t322 t323 t324 t325 _ ?side1 ?side2 ?side3 ?side4 ?side5 ?side6 A15.out).mono ?_); (case side1 => repeat (first | exact (Kd.C_below HR0_0.out HB.out) | (with_reducible refine Kd.C_alloc ?_ _) | (with_reducible refine Kd.C_drewN ?_ _) | (with_reducible refine Kd.C_drew ?_))); (case side2 => exact HC0_0.out); (case side3 => repeat (first | exact (Kd.C_below HR0_1.out HB.out) | (with_reducible refine Kd.C_alloc ?_ _) | (with_reducible refine Kd.C_drewN ?_ _) | (with_reducible refine Kd.C_drew ?_))); (case side4 => exact HC0_1.out); (case side5 => repeat (first | exact (Kd.C_below HR1.out HB.out) | (with_reducible refine Kd.C_alloc ?_ _) | (with_reducible refine Kd.C_drewN ?_ _) | (with_reducible refine Kd.C_drew ?_))); (case side6 => exact HC1.out); rintro e w38 ⟨v317, v320, rfl, ho0, ho1, hb⟩; refine ⟨_, rfl, ?_⟩; have n0_ := Aside0.mk (Kd.R_lower ho0 (below_size (by apply_rules (transparency := .reducible) only [HB.out, below_alloc, pw_below_drewN, below_drew1, below_set, GE312.out]))); have n1_ := Aside0.mk (Kd.R_lower ho1 (below_size (by apply_rules (transparency := .reducible) only [HB.out, below_alloc, pw_below_drewN, below_drew1, below_set, GE312.out]))); have n2_ := Aside0.mk (blk_below (g := gb312) (o := .cells #[.slice A0_0 l0_0.length c0_0, .slice A0_1 l0_1.length c0_1, .int .i64 a0_2] 25 (0, 0)) (by apply_rules (transparency := .reducible) only [blk_drewN, blk_drew, blk_alloc, BK312.out]) hb); have n3_ := Aside0.mk (below_step (by apply_rules (transparency := .reducible) only [HB.out, below_alloc, pw_below_drewN, below_drew1, below_set, GE312.out]) hb); clear BK312; clear HB; have HO318 := n0_; have HO321 := n1_; have BK312 := n2_; have HB := n3_; clear n0_ n1_ n2_ n3_; (try clear hb); (try clear hb2); (try clear hk); (try clear hi); (try clear ho0); (try clear ho1)) | ((with_reducible refine gate_dst (N := 5) rfl ?_); refine box_event ?hg (N := 5) ?hd (cs := #[.slice none 0 0, .slice none 0 0, .int .i64 0, .int .i64 0, .int .i64 0]) (t := 30) ?hr ?_; (case hd => rfl); (case hg => rfl); (case hr => first | (go_simp; done) | (go_simp; rfl)); intro gb326 hg w39 hbox hb; have n0_ := Aside0.mk (Kd.R_below (by (with_reducible repeat (first | apply Kd.R_alloc | apply Kd.R_drewN | apply Kd.R_drew)); exact HO318.out) hb); have n1_ := Aside0.mk (Kd.R_below (by (with_reducible repeat (first | apply Kd.R_alloc | apply Kd.R_drewN | apply Kd.R_drew)); exact HO321.out) hb); have n2_ := Aside0.mk (blk_below (g := gb312) (o := .cells #[.slice A0_0 l0_0.length c0_0, .slice A0_1 l0_1.length c0_1, .int .i64 a0_2] 25 (0, 0)) (by apply_rules (transparency := .reducible) only [blk_drewN, blk_drew, blk_alloc, BK312.out]) hb); have n3_ := Aside0.mk (below_step (by apply_rules (transparency := .reducible) only [HB.out, below_alloc, pw_below_drewN, below_drew1, below_set, GE312.out]) hb); have n4_ := Aside0.mk (hbox); have n5_ := Aside0.mk ((by rw [hg]; exact (below_size (by apply_rules (transparency := .reducible) only [HB.out, below_alloc, pw_below_drewN, below_drew1, below_set, GE312.out])) : w.heap.size ≤ gb326)); have n6_ := Aside0.mk ((by rw [hg]; exact (below_size (by apply_rules (transparency := .reducible) only [HB.out, below_alloc, pw_below_drewN, below_drew1, below_set, GE312.out])) : w.heap.size ≤ gb326)); have n7_ := Aside0.mk ((by rw [hg]; exact Nat.ne_of_lt (blk_lt (g := gb312) (o := .cells #[.slice A0_0 l0_0.length c0_0, .slice A0_1 l0_1.length c0_1, .int .i64 a0_2] 25 (0, 0)) (by apply_rules (transparency := .reducible) only [blk_drewN, blk_drew, blk_alloc, BK312.out])) : gb312 ≠ gb326)); have n8_ := Aside0.mk ((by rw [hg]; exact Nat.ne_of_gt (blk_lt (g := gb312) (o := .cells #[.slice A0_0 l0_0.length c0_0, .slice A0_1 l0_1.length c0_1, .int .i64 a0_2] 25 (0, 0)) (by apply_rules (transparency := .reducible) only [blk_drewN, blk_drew, blk_alloc, BK312.out])) : gb326 ≠ gb312)); clear HO318; clear HO321; clear BK312; clear HB; have HO318 := n0_; have HO321 := n1_; have BK312 := n2_; have HB := n3_; have BK326 := n4_; have GW326 := n5_; have GE326 := n6_; have NB312_326 := n7_; have NB326_312 := n8_; clear n0_ n1_ n2_ n3_ n4_ n5_ n6_ n7_ n8_; clear hb hbox hg; obtain ⟨Ao40, co40, eo40⟩ := Kd.R_slice HO318.out; subst eo40; have hnb41 := NB326_312.out; have hnc41 := NB312_326.out; obtain ⟨hcz42_0, hcz42_1, hcz42_2, hcz42_3, hcz42_4⟩ := blkc42_5 BK326.out; obtain ⟨hfz42_0, hfz42_1, hfz42_2, hfz42_3, hfz42_4⟩ := blkf42_5 BK326.out; obtain ⟨Ao43, co43, eo43⟩ := Kd.R_slice HO321.out; subst eo43))
     go_ret
     exact ⟨by first | rfl | (simp [errW_none, errW_some] <;> rfl) | (simp [*, errW_none, errW_some] <;> rfl), by apply_rules (transparency := .reducible) only [HB.out, below_alloc, pw_below_drewN, below_drew1, below_set, GE312.out, GE326.out]⟩

end Go.Proofs.Ytdnfofhfllnhiaa.Q
