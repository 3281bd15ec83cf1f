-- Written by drv.py, a program of this session, over the kit's print, out of the translation. Not trusted: Lean checks it.
import Derived.Test.YtcagccodmmcnfaaQD0
import Derived.Test.YtcagccodmmcnfaaQB
namespace Go.Proofs.Ytcagccodmmcnfaa.Q
open Go.RowKit Go.Proofs.YtcagccodmmcnfaaW.PrintWords Go.Proofs.YtcagccodmmcnfaaW.PrintLast Go.Proofs.YtcagccodmmcnfaaW.PrintMore
attribute [local go_sem] max2_int min2_int max_two min_two max_three min_three max_four min_four   -- for this text's walks alone
set_option linter.unusedVariables false
set_option linter.unusedSimpArgs false

theorem blkcRR_5 {w : World} {g : Nat} {t : TypeId} {v0 v1 v2 v3 v4 : Value} (h : w.heap[g]? = some (.cells #[v0, v1, v2, v3, v4] t (0, 0))) : w.cell? ⟨g, 0, none⟩ = some v0 ∧ w.cell? ⟨g, 1, none⟩ = some v1 ∧ w.cell? ⟨g, 2, none⟩ = some v2 ∧ w.cell? ⟨g, 3, none⟩ = some v3 ∧ w.cell? ⟨g, 4, none⟩ = some v4 := ⟨(blk_cell h 0).trans rfl, (blk_cell h 1).trans rfl, (blk_cell h 2).trans rfl, (blk_cell h 3).trans rfl, (blk_cell h 4).trans rfl⟩
theorem blkfRR_5 {w : World} {g : Nat} {t : TypeId} {cs : Array Value} (h : w.heap[g]? = some (.cells cs t (0, 0))) : w.frozen? ⟨g, 0, none⟩ = false ∧ w.frozen? ⟨g, 1, none⟩ = false ∧ w.frozen? ⟨g, 2, none⟩ = false ∧ w.frozen? ⟨g, 3, none⟩ = false ∧ w.frozen? ⟨g, 4, none⟩ = false := ⟨blk_frozen h 0, blk_frozen h 1, blk_frozen h 2, blk_frozen h 3, blk_frozen h 4⟩
theorem haltw_RR {G : Prop} (k : ∀ P : Prop, Aside0 (P = G) → P) : G := k G ⟨rfl⟩
set_option maxHeartbeats 8000000 in
set_option maxRecDepth 100000 in
theorem spliceref02_Right.calls (a0_0 : Int) (a0_1 : Int) (a0_2 : Int) (a0_3 : Int) (a0_4 : Int) (r : Bool) (w : World) (h : spliceref02_Right.f a0_0 a0_1 a0_2 a0_3 a0_4 = some r) :
    Calls Try.prog 38 #[.agg #[.int .i64 a0_0, .int .i64 a0_1, .int .i64 a0_2, .int .i64 a0_3, .int .i64 a0_4]] w fun e w' => e = .returned (.bool r) ∧ Below w.heap.size w w' := by
 have hu55 := Try.underlying55
 have HB := Aside0.mk (Below.refl w.heap.size w)
 have H : ((spliceref02_three.f a0_0).bind fun t283 => (if t283 = true then ((spliceref02_reg.f a0_1).bind fun t284 => (if t284 = true then ((spliceref02_reg.f a0_2).bind fun t285 => (if t285 = true then ((spliceref02_reg.f a0_3).bind fun t286 => (if t286 = true then (some (a0_4 == 0)) else (some false))) else (some false))) else (some false))) else (if a0_3 = 0 then ((spliceref02_near.f a0_0).bind fun t287 => (if t287 = true then ((spliceref02_reg.f a0_1).bind fun t288 => (if t288 = true then ((spliceref02_reg.f a0_2).bind fun t289 => (if t289 = true then (if a0_4 ≥ (-32768) then (some (decide (a0_4 ≤ 32767))) else (some false)) else (some false))) else (some false))) else (if a0_0 = 10 then ((spliceref02_reg.f a0_1).bind fun t290 => (if t290 = true then ((spliceref02_reg.f a0_2).bind fun t291 => (if t291 = true then (if a0_4 ≥ 0 then (some (decide (a0_4 ≤ 65535))) else (some false)) else (some false))) else (some false))) else ((spliceref02_branch.f a0_0).bind fun t292 => (if t292 = true then ((spliceref02_reg.f a0_1).bind fun t293 => (if t293 = true then ((spliceref02_reg.f a0_2).bind fun t294 => (if t294 = true then (if a0_4 ≥ (-128) then (some (decide (a0_4 ≤ 127))) else (some false)) else (some false))) else (some false))) else (if a0_2 = 0 then (if a0_0 = 9 then ((spliceref02_reg.f a0_1).bind fun t295 => (if t295 = true then (if a0_4 ≥ 0 then (some (decide (a0_4 ≤ 65535))) else (some false)) else (some false))) else ((spliceref02_one.f a0_0).bind fun t296 => (if t296 = true then ((spliceref02_reg.f a0_1).bind fun t297 => (if t297 = true then (some (a0_4 == 0)) else (some false))) else ((spliceref02_far.f a0_0).bind fun t298 => (if t298 = true then (if a0_1 = 0 then (if a0_4 ≥ (-8388608) then (some (decide (a0_4 ≤ 8388607))) else (some false)) else (some false)) else (if a0_0 = 21 then (if a0_1 = 0 then (some (a0_4 == 0)) else (some false)) else (if a0_0 = 24 then (if a0_1 = 0 then (some (a0_4 == 0)) else (some false)) else (if a0_0 = 25 then (if a0_1 = 0 then (some (a0_4 == 0)) else (some false)) else (some false))))))))) else (some false))))))) else (some false)))) = some r := h
 clear h
 replace H := Option.bind_eq_some_iff.mp H
 obtain ⟨t283, A20, H⟩ := H
 try dsimp only at H
 have A2 := Aside0.mk A20
 clear A20
 go_enter Try.func38, Try.ntmps38
 go_wp2_with (first | ((with_reducible refine gate_dst (N := 1) rfl ?_); refine box_event ?hg (N := 1) ?hd (cs := #[.int .i64 a0_0, .int .i64 a0_1, .int .i64 a0_2, .int .i64 a0_3, .int .i64 a0_4]) (t := 55) ?hr ?_; (case hd => rfl); (case hg => rfl); (case hr => first | (go_simp; done) | (go_simp; rfl)); intro gb282 hg w10 hbox hb; have n0_ := Aside0.mk (below_step (by apply_rules (transparency := .reducible) only [HB.out, below_alloc, pw_below_drewN, below_drew1]) hb); have n1_ := Aside0.mk (hbox); have n2_ := Aside0.mk ((by rw [hg]; exact (below_size (by apply_rules (transparency := .reducible) only [HB.out, below_alloc, pw_below_drewN, below_drew1])) : w.heap.size ≤ gb282)); have n3_ := Aside0.mk ((by rw [hg]; exact (below_size (by apply_rules (transparency := .reducible) only [HB.out, below_alloc, pw_below_drewN, below_drew1])) : w.heap.size ≤ gb282)); clear HB; have HB := n0_; have BK282 := n1_; have GW282 := n2_; have GE282 := n3_; clear n0_ n1_ n2_ n3_; clear hb hbox hg; obtain ⟨hcz11_0, hcz11_1, hcz11_2, hcz11_3, hcz11_4⟩ := blkcRR_5 BK282.out; obtain ⟨hfz11_0, hfz11_1, hfz11_2, hfz11_3, hfz11_4⟩ := blkfRR_5 BK282.out) | ((with_reducible refine gate_callee (f := 35) rfl ?_); refine goesL_ (some 5) rfl rfl Try.func35 (by kernel_rfl) rfl #[.int .i64 a0_0] rfl (by (try simp only [List.map_toArray, List.map_cons, List.map_nil]); first | done | rfl | (simp only [List.length_drop, List.length_take]; rfl)) ?_; (with_reducible refine (spliceref02_three.calls a0_0 t283 _ A2.out).mono ?_); rintro e w' ⟨rfl, ⟨nd, rfl⟩⟩; refine ⟨_, rfl, ?_⟩; refine haltw_RR (fun P_ hP_ => ?_)))
 by_cases c3 : t283 = true
 ·
  subst c3
  rw [if_pos rfl] at H
  replace H := Option.bind_eq_some_iff.mp H
  obtain ⟨t284, A40, H⟩ := H
  try dsimp only at H
  have A4 := Aside0.mk A40
  clear A40
  refine Eq.mpr hP_.out ?_
  clear hP_ P_
  go_wp2_with (first | ((with_reducible refine gate_callee (f := 53) rfl ?_); refine goesL_ (some 8) rfl rfl Try.func53 (by kernel_rfl) rfl #[.int .i64 a0_1] rfl (by (try simp only [List.map_toArray, List.map_cons, List.map_nil]); first | done | rfl | (simp only [List.length_drop, List.length_take]; rfl)) ?_; (with_reducible refine (spliceref02_reg.calls a0_1 t284 _ A4.out).mono ?_); rintro e w' ⟨rfl, ⟨nd, rfl⟩⟩; refine ⟨_, rfl, ?_⟩; refine haltw_RR (fun P_ hP_ => ?_)))
  by_cases c5 : t284 = true
  ·
   subst c5
   rw [if_pos rfl] at H
   replace H := Option.bind_eq_some_iff.mp H
   obtain ⟨t285, A60, H⟩ := H
   try dsimp only at H
   have A6 := Aside0.mk A60
   clear A60
   refine Eq.mpr hP_.out ?_
   clear hP_ P_
   go_wp2_with (first | (go_at_call 53; (with_reducible refine (spliceref02_reg.calls a0_2 t285 _ A6.out).mono ?_); rintro e w' ⟨rfl, ⟨nd, rfl⟩⟩; refine haltw_RR (fun P_ hP_ => ?_)))
   by_cases c7 : t285 = true
   ·
    subst c7
    rw [if_pos rfl] at H
    replace H := Option.bind_eq_some_iff.mp H
    obtain ⟨t286, A80, H⟩ := H
    try dsimp only at H
    have A8 := Aside0.mk A80
    clear A80
    refine Eq.mpr hP_.out ?_
    clear hP_ P_
    go_wp2_with (first | (go_at_call 53; (with_reducible refine (spliceref02_reg.calls a0_3 t286 _ A8.out).mono ?_); rintro e w' ⟨rfl, ⟨nd, rfl⟩⟩; refine haltw_RR (fun P_ hP_ => ?_)))
    by_cases c9 : t286 = true
    ·
     subst c9
     have H1 : (some (a0_4 == 0)) = some r := by rw [if_pos rfl] at H; exact H
     clear H
     have H := H1
     clear H1
     obtain rfl := Option.some.inj H
     refine Eq.mpr hP_.out ?_
     clear hP_ P_
     go_wp2_with fail
     go_ret
     exact ⟨by first | rfl | (simp [errW_none, errW_some] <;> rfl) | (simp [*, errW_none, errW_some] <;> rfl), by apply_rules (transparency := .reducible) only [HB.out, below_alloc, pw_below_drewN, below_drew1, below_set, GE282.out]⟩
    ·
     replace c9 := Bool.eq_false_iff.mpr c9
     subst c9
     rw [if_neg Bool.false_ne_true] at H
     obtain rfl := Option.some.inj H
     refine Eq.mpr hP_.out ?_
     clear hP_ P_
     go_wp2_with fail
     go_ret
     exact ⟨by first | rfl | (simp [errW_none, errW_some] <;> rfl) | (simp [*, errW_none, errW_some] <;> rfl), by apply_rules (transparency := .reducible) only [HB.out, below_alloc, pw_below_drewN, below_drew1, below_set, GE282.out]⟩
   ·
    replace c7 := Bool.eq_false_iff.mpr c7
    subst c7
    rw [if_neg Bool.false_ne_true] at H
    obtain rfl := Option.some.inj H
    refine Eq.mpr hP_.out ?_
    clear hP_ P_
    go_wp2_with fail
    go_ret
    exact ⟨by first | rfl | (simp [errW_none, errW_some] <;> rfl) | (simp [*, errW_none, errW_some] <;> rfl), by apply_rules (transparency := .reducible) only [HB.out, below_alloc, pw_below_drewN, below_drew1, below_set, GE282.out]⟩
  ·
   replace c5 := Bool.eq_false_iff.mpr c5
   subst c5
   rw [if_neg Bool.false_ne_true] at H
   obtain rfl := Option.some.inj H
   refine Eq.mpr hP_.out ?_
   clear hP_ P_
   go_wp2_with fail
   go_ret
   exact ⟨by first | rfl | (simp [errW_none, errW_some] <;> rfl) | (simp [*, errW_none, errW_some] <;> rfl), by apply_rules (transparency := .reducible) only [HB.out, below_alloc, pw_below_drewN, below_drew1, below_set, GE282.out]⟩
 ·
  replace c3 := Bool.eq_false_iff.mpr c3
  subst c3
  rw [if_neg Bool.false_ne_true] at H
  by_cases c18 : a0_3 = 0
  ·
   rw [if_pos c18] at H
   have c18b0 : (a0_3 == 0) = true := beq_iff_eq.mpr c18
   have c18b1 : (a0_3 != 0) = false := bne_eq_false_iff_eq.mpr c18
   clear c18
   replace H := Option.bind_eq_some_iff.mp H
   obtain ⟨t287, A190, H⟩ := H
   try dsimp only at H
   have A19 := Aside0.mk A190
   clear A190
   refine Eq.mpr hP_.out ?_
   clear hP_ P_
   go_wp2_with (first | ((with_reducible refine gate_callee (f := 36) rfl ?_); refine goesL_ (some 29) rfl rfl Try.func36 (by kernel_rfl) rfl #[.int .i64 a0_0] rfl (by (try simp only [List.map_toArray, List.map_cons, List.map_nil]); first | done | rfl | (simp only [List.length_drop, List.length_take]; rfl)) ?_; (with_reducible refine (spliceref02_near.calls a0_0 t287 _ A19.out).mono ?_); rintro e w' ⟨rfl, ⟨nd, rfl⟩⟩; refine ⟨_, rfl, ?_⟩; refine haltw_RR (fun P_ hP_ => ?_)))
   by_cases c20 : t287 = true
   ·
    subst c20
    rw [if_pos rfl] at H
    replace H := Option.bind_eq_some_iff.mp H
    obtain ⟨t288, A210, H⟩ := H
    try dsimp only at H
    have A21 := Aside0.mk A210
    clear A210
    refine Eq.mpr hP_.out ?_
    clear hP_ P_
    go_wp2_with (first | ((with_reducible refine gate_callee (f := 53) rfl ?_); refine goesL_ (some 32) rfl rfl Try.func53 (by kernel_rfl) rfl #[.int .i64 a0_1] rfl (by (try simp only [List.map_toArray, List.map_cons, List.map_nil]); first | done | rfl | (simp only [List.length_drop, List.length_take]; rfl)) ?_; (with_reducible refine (spliceref02_reg.calls a0_1 t288 _ A21.out).mono ?_); rintro e w' ⟨rfl, ⟨nd, rfl⟩⟩; refine ⟨_, rfl, ?_⟩; refine haltw_RR (fun P_ hP_ => ?_)))
    by_cases c22 : t288 = true
    ·
     subst c22
     rw [if_pos rfl] at H
     replace H := Option.bind_eq_some_iff.mp H
     obtain ⟨t289, A230, H⟩ := H
     try dsimp only at H
     have A23 := Aside0.mk A230
     clear A230
     refine Eq.mpr hP_.out ?_
     clear hP_ P_
     go_wp2_with (first | (go_at_call 53; (with_reducible refine (spliceref02_reg.calls a0_2 t289 _ A23.out).mono ?_); rintro e w' ⟨rfl, ⟨nd, rfl⟩⟩; refine haltw_RR (fun P_ hP_ => ?_)))
     by_cases c24 : t289 = true
     ·
      subst c24
      rw [if_pos rfl] at H
      by_cases c25 : a0_4 ≥ (-32768)
      ·
       rw [if_pos c25] at H
       have c25b0 : decide ((-32768) ≤ a0_4) = true := decide_eq_true c25
       clear c25
       obtain rfl := Option.some.inj H
       refine Eq.mpr hP_.out ?_
       clear hP_ P_
       go_wp2_with fail
       go_ret
       exact ⟨by first | rfl | (simp [errW_none, errW_some] <;> rfl) | (simp [*, errW_none, errW_some] <;> rfl), by apply_rules (transparency := .reducible) only [HB.out, below_alloc, pw_below_drewN, below_drew1, below_set, GE282.out]⟩
      ·
       rw [if_neg c25] at H
       have c25b0 : decide ((-32768) ≤ a0_4) = false := decide_eq_false c25
       clear c25
       obtain rfl := Option.some.inj H
       refine Eq.mpr hP_.out ?_
       clear hP_ P_
       go_wp2_with fail
       go_ret
       exact ⟨by first | rfl | (simp [errW_none, errW_some] <;> rfl) | (simp [*, errW_none, errW_some] <;> rfl), by apply_rules (transparency := .reducible) only [HB.out, below_alloc, pw_below_drewN, below_drew1, below_set, GE282.out]⟩
     ·
      replace c24 := Bool.eq_false_iff.mpr c24
      subst c24
      rw [if_neg Bool.false_ne_true] at H
      obtain rfl := Option.some.inj H
      refine Eq.mpr hP_.out ?_
      clear hP_ P_
      go_wp2_with fail
      go_ret
      exact ⟨by first | rfl | (simp [errW_none, errW_some] <;> rfl) | (simp [*, errW_none, errW_some] <;> rfl), by apply_rules (transparency := .reducible) only [HB.out, below_alloc, pw_below_drewN, below_drew1, below_set, GE282.out]⟩
    ·
     replace c22 := Bool.eq_false_iff.mpr c22
     subst c22
     rw [if_neg Bool.false_ne_true] at H
     obtain rfl := Option.some.inj H
     refine Eq.mpr hP_.out ?_
     clear hP_ P_
     go_wp2_with fail
     go_ret
     exact ⟨by first | rfl | (simp [errW_none, errW_some] <;> rfl) | (simp [*, errW_none, errW_some] <;> rfl), by apply_rules (transparency := .reducible) only [HB.out, below_alloc, pw_below_drewN, below_drew1, below_set, GE282.out]⟩
   ·
    replace c20 := Bool.eq_false_iff.mpr c20
    subst c20
    rw [if_neg Bool.false_ne_true] at H
    by_cases c34 : a0_0 = 10
    ·
     rw [if_pos c34] at H
     have c34b0 : (a0_0 == 10) = true := beq_iff_eq.mpr c34
     have c34b1 : (a0_0 != 10) = false := bne_eq_false_iff_eq.mpr c34
     clear c34
     replace H := Option.bind_eq_some_iff.mp H
     obtain ⟨t290, A350, H⟩ := H
     try dsimp only at H
     have A35 := Aside0.mk A350
     clear A350
     refine Eq.mpr hP_.out ?_
     clear hP_ P_
     go_wp2_with (first | ((with_reducible refine gate_callee (f := 53) rfl ?_); refine goesL_ (some 53) rfl rfl Try.func53 (by kernel_rfl) rfl #[.int .i64 a0_1] rfl (by (try simp only [List.map_toArray, List.map_cons, List.map_nil]); first | done | rfl | (simp only [List.length_drop, List.length_take]; rfl)) ?_; (with_reducible refine (spliceref02_reg.calls a0_1 t290 _ A35.out).mono ?_); rintro e w' ⟨rfl, ⟨nd, rfl⟩⟩; refine ⟨_, rfl, ?_⟩; refine haltw_RR (fun P_ hP_ => ?_)))
     by_cases c36 : t290 = true
     ·
      subst c36
      rw [if_pos rfl] at H
      replace H := Option.bind_eq_some_iff.mp H
      obtain ⟨t291, A370, H⟩ := H
      try dsimp only at H
      have A37 := Aside0.mk A370
      clear A370
      refine Eq.mpr hP_.out ?_
      clear hP_ P_
      go_wp2_with (first | (go_at_call 53; (with_reducible refine (spliceref02_reg.calls a0_2 t291 _ A37.out).mono ?_); rintro e w' ⟨rfl, ⟨nd, rfl⟩⟩; refine haltw_RR (fun P_ hP_ => ?_)))
      by_cases c38 : t291 = true
      ·
       subst c38
       rw [if_pos rfl] at H
       by_cases c39 : a0_4 ≥ 0
       ·
        rw [if_pos c39] at H
        have c39b0 : decide (0 ≤ a0_4) = true := decide_eq_true c39
        clear c39
        obtain rfl := Option.some.inj H
        refine Eq.mpr hP_.out ?_
        clear hP_ P_
        go_wp2_with fail
        go_ret
        exact ⟨by first | rfl | (simp [errW_none, errW_some] <;> rfl) | (simp [*, errW_none, errW_some] <;> rfl), by apply_rules (transparency := .reducible) only [HB.out, below_alloc, pw_below_drewN, below_drew1, below_set, GE282.out]⟩
       ·
        rw [if_neg c39] at H
        have c39b0 : decide (0 ≤ a0_4) = false := decide_eq_false c39
        clear c39
        obtain rfl := Option.some.inj H
        refine Eq.mpr hP_.out ?_
        clear hP_ P_
        go_wp2_with fail
        go_ret
        exact ⟨by first | rfl | (simp [errW_none, errW_some] <;> rfl) | (simp [*, errW_none, errW_some] <;> rfl), by apply_rules (transparency := .reducible) only [HB.out, below_alloc, pw_below_drewN, below_drew1, below_set, GE282.out]⟩
      ·
       replace c38 := Bool.eq_false_iff.mpr c38
       subst c38
       rw [if_neg Bool.false_ne_true] at H
       obtain rfl := Option.some.inj H
       refine Eq.mpr hP_.out ?_
       clear hP_ P_
       go_wp2_with fail
       go_ret
       exact ⟨by first | rfl | (simp [errW_none, errW_some] <;> rfl) | (simp [*, errW_none, errW_some] <;> rfl), by apply_rules (transparency := .reducible) only [HB.out, below_alloc, pw_below_drewN, below_drew1, below_set, GE282.out]⟩
     ·
      replace c36 := Bool.eq_false_iff.mpr c36
      subst c36
      rw [if_neg Bool.false_ne_true] at H
      obtain rfl := Option.some.inj H
      refine Eq.mpr hP_.out ?_
      clear hP_ P_
      go_wp2_with fail
      go_ret
      exact ⟨by first | rfl | (simp [errW_none, errW_some] <;> rfl) | (simp [*, errW_none, errW_some] <;> rfl), by apply_rules (transparency := .reducible) only [HB.out, below_alloc, pw_below_drewN, below_drew1, below_set, GE282.out]⟩
    ·
     rw [if_neg c34] at H
     have c34b0 : (a0_0 == 10) = false := beq_eq_false_iff_ne.mpr c34
     have c34b1 : (a0_0 != 10) = true := bne_iff_ne.mpr c34
     replace H := Option.bind_eq_some_iff.mp H
     obtain ⟨t292, A480, H⟩ := H
     try dsimp only at H
     have A48 := Aside0.mk A480
     clear A480
     refine Eq.mpr hP_.out ?_
     clear hP_ P_
     go_wp2_with (first | ((with_reducible refine gate_callee (f := 37) rfl ?_); refine goesL_ (some 71) rfl rfl Try.func37 (by kernel_rfl) rfl #[.int .i64 a0_0] rfl (by (try simp only [List.map_toArray, List.map_cons, List.map_nil]); first | done | rfl | (simp only [List.length_drop, List.length_take]; rfl)) ?_; (with_reducible refine (spliceref02_branch.calls a0_0 t292 _ A48.out).mono ?_); rintro e w' ⟨rfl, ⟨nd, rfl⟩⟩; refine ⟨_, rfl, ?_⟩; refine haltw_RR (fun P_ hP_ => ?_)))
     by_cases c49 : t292 = true
     ·
      subst c49
      rw [if_pos rfl] at H
      replace H := Option.bind_eq_some_iff.mp H
      obtain ⟨t293, A500, H⟩ := H
      try dsimp only at H
      have A50 := Aside0.mk A500
      clear A500
      refine Eq.mpr hP_.out ?_
      clear hP_ P_
      go_wp2_with (first | ((with_reducible refine gate_callee (f := 53) rfl ?_); refine goesL_ (some 74) rfl rfl Try.func53 (by kernel_rfl) rfl #[.int .i64 a0_1] rfl (by (try simp only [List.map_toArray, List.map_cons, List.map_nil]); first | done | rfl | (simp only [List.length_drop, List.length_take]; rfl)) ?_; (with_reducible refine (spliceref02_reg.calls a0_1 t293 _ A50.out).mono ?_); rintro e w' ⟨rfl, ⟨nd, rfl⟩⟩; refine ⟨_, rfl, ?_⟩; refine haltw_RR (fun P_ hP_ => ?_)))
      by_cases c51 : t293 = true
      ·
       subst c51
       rw [if_pos rfl] at H
       replace H := Option.bind_eq_some_iff.mp H
       obtain ⟨t294, A520, H⟩ := H
       try dsimp only at H
       have A52 := Aside0.mk A520
       clear A520
       refine Eq.mpr hP_.out ?_
       clear hP_ P_
       go_wp2_with (first | (go_at_call 53; (with_reducible refine (spliceref02_reg.calls a0_2 t294 _ A52.out).mono ?_); rintro e w' ⟨rfl, ⟨nd, rfl⟩⟩; refine haltw_RR (fun P_ hP_ => ?_)))
       by_cases c53 : t294 = true
       ·
        subst c53
        rw [if_pos rfl] at H
        by_cases c54 : a0_4 ≥ (-128)
        ·
         rw [if_pos c54] at H
         have c54b0 : decide ((-128) ≤ a0_4) = true := decide_eq_true c54
         clear c54
         obtain rfl := Option.some.inj H
         refine Eq.mpr hP_.out ?_
         clear hP_ P_
         go_wp2_with fail
         go_ret
         exact ⟨by first | rfl | (simp [errW_none, errW_some] <;> rfl) | (simp [*, errW_none, errW_some] <;> rfl), by apply_rules (transparency := .reducible) only [HB.out, below_alloc, pw_below_drewN, below_drew1, below_set, GE282.out]⟩
        ·
         rw [if_neg c54] at H
         have c54b0 : decide ((-128) ≤ a0_4) = false := decide_eq_false c54
         clear c54
         obtain rfl := Option.some.inj H
         refine Eq.mpr hP_.out ?_
         clear hP_ P_
         go_wp2_with fail
         go_ret
         exact ⟨by first | rfl | (simp [errW_none, errW_some] <;> rfl) | (simp [*, errW_none, errW_some] <;> rfl), by apply_rules (transparency := .reducible) only [HB.out, below_alloc, pw_below_drewN, below_drew1, below_set, GE282.out]⟩
       ·
        replace c53 := Bool.eq_false_iff.mpr c53
        subst c53
        rw [if_neg Bool.false_ne_true] at H
        obtain rfl := Option.some.inj H
        refine Eq.mpr hP_.out ?_
        clear hP_ P_
        go_wp2_with fail
        go_ret
        exact ⟨by first | rfl | (simp [errW_none, errW_some] <;> rfl) | (simp [*, errW_none, errW_some] <;> rfl), by apply_rules (transparency := .reducible) only [HB.out, below_alloc, pw_below_drewN, below_drew1, below_set, GE282.out]⟩
      ·
       replace c51 := Bool.eq_false_iff.mpr c51
       subst c51
       rw [if_neg Bool.false_ne_true] at H
       obtain rfl := Option.some.inj H
       refine Eq.mpr hP_.out ?_
       clear hP_ P_
       go_wp2_with fail
       go_ret
       exact ⟨by first | rfl | (simp [errW_none, errW_some] <;> rfl) | (simp [*, errW_none, errW_some] <;> rfl), by apply_rules (transparency := .reducible) only [HB.out, below_alloc, pw_below_drewN, below_drew1, below_set, GE282.out]⟩
     ·
      replace c49 := Bool.eq_false_iff.mpr c49
      subst c49
      rw [if_neg Bool.false_ne_true] at H
      by_cases c63 : a0_2 = 0
      ·
       rw [if_pos c63] at H
       have c63b0 : (a0_2 == 0) = true := beq_iff_eq.mpr c63
       have c63b1 : (a0_2 != 0) = false := bne_eq_false_iff_eq.mpr c63
       clear c63
       by_cases c64 : a0_0 = 9
       ·
        rw [if_pos c64] at H
        have c64b0 : (a0_0 == 9) = true := beq_iff_eq.mpr c64
        have c64b1 : (a0_0 != 9) = false := bne_eq_false_iff_eq.mpr c64
        clear c64
        replace H := Option.bind_eq_some_iff.mp H
        obtain ⟨t295, A650, H⟩ := H
        try dsimp only at H
        have A65 := Aside0.mk A650
        clear A650
        refine Eq.mpr hP_.out ?_
        clear hP_ P_
        go_wp2_with (first | ((with_reducible refine gate_callee (f := 53) rfl ?_); refine goesL_ (some 98) rfl rfl Try.func53 (by kernel_rfl) rfl #[.int .i64 a0_1] rfl (by (try simp only [List.map_toArray, List.map_cons, List.map_nil]); first | done | rfl | (simp only [List.length_drop, List.length_take]; rfl)) ?_; (with_reducible refine (spliceref02_reg.calls a0_1 t295 _ A65.out).mono ?_); rintro e w' ⟨rfl, ⟨nd, rfl⟩⟩; refine ⟨_, rfl, ?_⟩; refine haltw_RR (fun P_ hP_ => ?_)))
        by_cases c66 : t295 = true
        ·
         subst c66
         rw [if_pos rfl] at H
         by_cases c67 : a0_4 ≥ 0
         ·
          rw [if_pos c67] at H
          have c67b0 : decide (0 ≤ a0_4) = true := decide_eq_true c67
          clear c67
          obtain rfl := Option.some.inj H
          refine Eq.mpr hP_.out ?_
          clear hP_ P_
          go_wp2_with fail
          go_ret
          exact ⟨by first | rfl | (simp [errW_none, errW_some] <;> rfl) | (simp [*, errW_none, errW_some] <;> rfl), by apply_rules (transparency := .reducible) only [HB.out, below_alloc, pw_below_drewN, below_drew1, below_set, GE282.out]⟩
         ·
          rw [if_neg c67] at H
          have c67b0 : decide (0 ≤ a0_4) = false := decide_eq_false c67
          clear c67
          obtain rfl := Option.some.inj H
          refine Eq.mpr hP_.out ?_
          clear hP_ P_
          go_wp2_with fail
          go_ret
          exact ⟨by first | rfl | (simp [errW_none, errW_some] <;> rfl) | (simp [*, errW_none, errW_some] <;> rfl), by apply_rules (transparency := .reducible) only [HB.out, below_alloc, pw_below_drewN, below_drew1, below_set, GE282.out]⟩
        ·
         replace c66 := Bool.eq_false_iff.mpr c66
         subst c66
         rw [if_neg Bool.false_ne_true] at H
         obtain rfl := Option.some.inj H
         refine Eq.mpr hP_.out ?_
         clear hP_ P_
         go_wp2_with fail
         go_ret
         exact ⟨by first | rfl | (simp [errW_none, errW_some] <;> rfl) | (simp [*, errW_none, errW_some] <;> rfl), by apply_rules (transparency := .reducible) only [HB.out, below_alloc, pw_below_drewN, below_drew1, below_set, GE282.out]⟩
       ·
        rw [if_neg c64] at H
        have c64b0 : (a0_0 == 9) = false := beq_eq_false_iff_ne.mpr c64
        have c64b1 : (a0_0 != 9) = true := bne_iff_ne.mpr c64
        replace H := Option.bind_eq_some_iff.mp H
        obtain ⟨t296, A740, H⟩ := H
        try dsimp only at H
        have A74 := Aside0.mk A740
        clear A740
        refine Eq.mpr hP_.out ?_
        clear hP_ P_
        go_wp2_with (first | ((with_reducible refine gate_callee (f := 54) rfl ?_); refine goesL_ (some 111) rfl rfl Try.func54 (by kernel_rfl) rfl #[.int .i64 a0_0] rfl (by (try simp only [List.map_toArray, List.map_cons, List.map_nil]); first | done | rfl | (simp only [List.length_drop, List.length_take]; rfl)) ?_; (with_reducible refine (spliceref02_one.calls a0_0 t296 _ A74.out).mono ?_); rintro e w' ⟨rfl, ⟨nd, rfl⟩⟩; refine ⟨_, rfl, ?_⟩; refine haltw_RR (fun P_ hP_ => ?_)))
        by_cases c75 : t296 = true
        ·
         subst c75
         rw [if_pos rfl] at H
         replace H := Option.bind_eq_some_iff.mp H
         obtain ⟨t297, A760, H⟩ := H
         try dsimp only at H
         have A76 := Aside0.mk A760
         clear A760
         refine Eq.mpr hP_.out ?_
         clear hP_ P_
         go_wp2_with (first | ((with_reducible refine gate_callee (f := 53) rfl ?_); refine goesL_ (some 114) rfl rfl Try.func53 (by kernel_rfl) rfl #[.int .i64 a0_1] rfl (by (try simp only [List.map_toArray, List.map_cons, List.map_nil]); first | done | rfl | (simp only [List.length_drop, List.length_take]; rfl)) ?_; (with_reducible refine (spliceref02_reg.calls a0_1 t297 _ A76.out).mono ?_); rintro e w' ⟨rfl, ⟨nd, rfl⟩⟩; refine ⟨_, rfl, ?_⟩; refine haltw_RR (fun P_ hP_ => ?_)))
         by_cases c77 : t297 = true
         ·
          subst c77
          have H1 : (some (a0_4 == 0)) = some r := by rw [if_pos rfl] at H; exact H
          clear H
          have H := H1
          clear H1
          obtain rfl := Option.some.inj H
          refine Eq.mpr hP_.out ?_
          clear hP_ P_
          go_wp2_with fail
          go_ret
          exact ⟨by first | rfl | (simp [errW_none, errW_some] <;> rfl) | (simp [*, errW_none, errW_some] <;> rfl), by apply_rules (transparency := .reducible) only [HB.out, below_alloc, pw_below_drewN, below_drew1, below_set, GE282.out]⟩
         ·
          replace c77 := Bool.eq_false_iff.mpr c77
          subst c77
          rw [if_neg Bool.false_ne_true] at H
          obtain rfl := Option.some.inj H
          refine Eq.mpr hP_.out ?_
          clear hP_ P_
          go_wp2_with fail
          go_ret
          exact ⟨by first | rfl | (simp [errW_none, errW_some] <;> rfl) | (simp [*, errW_none, errW_some] <;> rfl), by apply_rules (transparency := .reducible) only [HB.out, below_alloc, pw_below_drewN, below_drew1, below_set, GE282.out]⟩
        ·
         replace c75 := Bool.eq_false_iff.mpr c75
         subst c75
         rw [if_neg Bool.false_ne_true] at H
         replace H := Option.bind_eq_some_iff.mp H
         obtain ⟨t298, A820, H⟩ := H
         try dsimp only at H
         have A82 := Aside0.mk A820
         clear A820
         refine Eq.mpr hP_.out ?_
         clear hP_ P_
         go_wp2_with (first | ((with_reducible refine gate_callee (f := 33) rfl ?_); refine goesL_ (some 122) rfl rfl Try.func33 (by kernel_rfl) rfl #[.int .i64 a0_0] rfl (by (try simp only [List.map_toArray, List.map_cons, List.map_nil]); first | done | rfl | (simp only [List.length_drop, List.length_take]; rfl)) ?_; (with_reducible refine (spliceref02_far.calls a0_0 t298 _ A82.out).mono ?_); rintro e w' ⟨rfl, ⟨nd, rfl⟩⟩; refine ⟨_, rfl, ?_⟩; refine haltw_RR (fun P_ hP_ => ?_)))
         by_cases c83 : t298 = true
         ·
          subst c83
          rw [if_pos rfl] at H
          by_cases c84 : a0_1 = 0
          ·
           rw [if_pos c84] at H
           have c84b0 : (a0_1 == 0) = true := beq_iff_eq.mpr c84
           have c84b1 : (a0_1 != 0) = false := bne_eq_false_iff_eq.mpr c84
           clear c84
           by_cases c85 : a0_4 ≥ (-8388608)
           ·
            rw [if_pos c85] at H
            have c85b0 : decide ((-8388608) ≤ a0_4) = true := decide_eq_true c85
            clear c85
            obtain rfl := Option.some.inj H
            refine Eq.mpr hP_.out ?_
            clear hP_ P_
            go_wp2_with fail
            go_ret
            exact ⟨by first | rfl | (simp [errW_none, errW_some] <;> rfl) | (simp [*, errW_none, errW_some] <;> rfl), by apply_rules (transparency := .reducible) only [HB.out, below_alloc, pw_below_drewN, below_drew1, below_set, GE282.out]⟩
           ·
            rw [if_neg c85] at H
            have c85b0 : decide ((-8388608) ≤ a0_4) = false := decide_eq_false c85
            clear c85
            obtain rfl := Option.some.inj H
            refine Eq.mpr hP_.out ?_
            clear hP_ P_
            go_wp2_with fail
            go_ret
            exact ⟨by first | rfl | (simp [errW_none, errW_some] <;> rfl) | (simp [*, errW_none, errW_some] <;> rfl), by apply_rules (transparency := .reducible) only [HB.out, below_alloc, pw_below_drewN, below_drew1, below_set, GE282.out]⟩
          ·
           rw [if_neg c84] at H
           have c84b0 : (a0_1 == 0) = false := beq_eq_false_iff_ne.mpr c84
           have c84b1 : (a0_1 != 0) = true := bne_iff_ne.mpr c84
           obtain rfl := Option.some.inj H
           refine Eq.mpr hP_.out ?_
           clear hP_ P_
           go_wp2_with fail
           go_ret
           exact ⟨by first | rfl | (simp [errW_none, errW_some] <;> rfl) | (simp [*, errW_none, errW_some] <;> rfl), by apply_rules (transparency := .reducible) only [HB.out, below_alloc, pw_below_drewN, below_drew1, below_set, GE282.out]⟩
         ·
          replace c83 := Bool.eq_false_iff.mpr c83
          subst c83
          rw [if_neg Bool.false_ne_true] at H
          by_cases c92 : a0_0 = 21
          ·
           rw [if_pos c92] at H
           have c92b0 : (a0_0 == 21) = true := beq_iff_eq.mpr c92
           have c92b1 : (a0_0 != 21) = false := bne_eq_false_iff_eq.mpr c92
           clear c92
           by_cases c93 : a0_1 = 0
           ·
            rw [if_pos c93] at H
            have c93b0 : (a0_1 == 0) = true := beq_iff_eq.mpr c93
            have c93b1 : (a0_1 != 0) = false := bne_eq_false_iff_eq.mpr c93
            clear c93
            obtain rfl := Option.some.inj H
            refine Eq.mpr hP_.out ?_
            clear hP_ P_
            go_wp2_with fail
            go_ret
            exact ⟨by first | rfl | (simp [errW_none, errW_some] <;> rfl) | (simp [*, errW_none, errW_some] <;> rfl), by apply_rules (transparency := .reducible) only [HB.out, below_alloc, pw_below_drewN, below_drew1, below_set, GE282.out]⟩
           ·
            rw [if_neg c93] at H
            have c93b0 : (a0_1 == 0) = false := beq_eq_false_iff_ne.mpr c93
            have c93b1 : (a0_1 != 0) = true := bne_iff_ne.mpr c93
            obtain rfl := Option.some.inj H
            refine Eq.mpr hP_.out ?_
            clear hP_ P_
            go_wp2_with fail
            go_ret
            exact ⟨by first | rfl | (simp [errW_none, errW_some] <;> rfl) | (simp [*, errW_none, errW_some] <;> rfl), by apply_rules (transparency := .reducible) only [HB.out, below_alloc, pw_below_drewN, below_drew1, below_set, GE282.out]⟩
          ·
           rw [if_neg c92] at H
           have c92b0 : (a0_0 == 21) = false := beq_eq_false_iff_ne.mpr c92
           have c92b1 : (a0_0 != 21) = true := bne_iff_ne.mpr c92
           by_cases c98 : a0_0 = 24
           ·
            rw [if_pos c98] at H
            have c98b0 : (a0_0 == 24) = true := beq_iff_eq.mpr c98
            have c98b1 : (a0_0 != 24) = false := bne_eq_false_iff_eq.mpr c98
            clear c98
            by_cases c99 : a0_1 = 0
            ·
             rw [if_pos c99] at H
             have c99b0 : (a0_1 == 0) = true := beq_iff_eq.mpr c99
             have c99b1 : (a0_1 != 0) = false := bne_eq_false_iff_eq.mpr c99
             clear c99
             obtain rfl := Option.some.inj H
             refine Eq.mpr hP_.out ?_
             clear hP_ P_
             go_wp2_with fail
             go_ret
             exact ⟨by first | rfl | (simp [errW_none, errW_some] <;> rfl) | (simp [*, errW_none, errW_some] <;> rfl), by apply_rules (transparency := .reducible) only [HB.out, below_alloc, pw_below_drewN, below_drew1, below_set, GE282.out]⟩
            ·
             rw [if_neg c99] at H
             have c99b0 : (a0_1 == 0) = false := beq_eq_false_iff_ne.mpr c99
             have c99b1 : (a0_1 != 0) = true := bne_iff_ne.mpr c99
             obtain rfl := Option.some.inj H
             refine Eq.mpr hP_.out ?_
             clear hP_ P_
             go_wp2_with fail
             go_ret
             exact ⟨by first | rfl | (simp [errW_none, errW_some] <;> rfl) | (simp [*, errW_none, errW_some] <;> rfl), by apply_rules (transparency := .reducible) only [HB.out, below_alloc, pw_below_drewN, below_drew1, below_set, GE282.out]⟩
           ·
            rw [if_neg c98] at H
            have c98b0 : (a0_0 == 24) = false := beq_eq_false_iff_ne.mpr c98
            have c98b1 : (a0_0 != 24) = true := bne_iff_ne.mpr c98
            by_cases c104 : a0_0 = 25
            ·
             rw [if_pos c104] at H
             have c104b0 : (a0_0 == 25) = true := beq_iff_eq.mpr c104
             have c104b1 : (a0_0 != 25) = false := bne_eq_false_iff_eq.mpr c104
             clear c104
             by_cases c105 : a0_1 = 0
             ·
              rw [if_pos c105] at H
              have c105b0 : (a0_1 == 0) = true := beq_iff_eq.mpr c105
              have c105b1 : (a0_1 != 0) = false := bne_eq_false_iff_eq.mpr c105
              clear c105
              obtain rfl := Option.some.inj H
              refine Eq.mpr hP_.out ?_
              clear hP_ P_
              go_wp2_with fail
              go_ret
              exact ⟨by first | rfl | (simp [errW_none, errW_some] <;> rfl) | (simp [*, errW_none, errW_some] <;> rfl), by apply_rules (transparency := .reducible) only [HB.out, below_alloc, pw_below_drewN, below_drew1, below_set, GE282.out]⟩
             ·
              rw [if_neg c105] at H
              have c105b0 : (a0_1 == 0) = false := beq_eq_false_iff_ne.mpr c105
              have c105b1 : (a0_1 != 0) = true := bne_iff_ne.mpr c105
              obtain rfl := Option.some.inj H
              refine Eq.mpr hP_.out ?_
              clear hP_ P_
              go_wp2_with fail
              go_ret
              exact ⟨by first | rfl | (simp [errW_none, errW_some] <;> rfl) | (simp [*, errW_none, errW_some] <;> rfl), by apply_rules (transparency := .reducible) only [HB.out, below_alloc, pw_below_drewN, below_drew1, below_set, GE282.out]⟩
            ·
             rw [if_neg c104] at H
             have c104b0 : (a0_0 == 25) = false := beq_eq_false_iff_ne.mpr c104
             have c104b1 : (a0_0 != 25) = true := bne_iff_ne.mpr c104
             obtain rfl := Option.some.inj H
             refine Eq.mpr hP_.out ?_
             clear hP_ P_
             go_wp2_with fail
             go_ret
             exact ⟨by first | rfl | (simp [errW_none, errW_some] <;> rfl) | (simp [*, errW_none, errW_some] <;> rfl), by apply_rules (transparency := .reducible) only [HB.out, below_alloc, pw_below_drewN, below_drew1, below_set, GE282.out]⟩
      ·
       rw [if_neg c63] at H
       have c63b0 : (a0_2 == 0) = false := beq_eq_false_iff_ne.mpr c63
       have c63b1 : (a0_2 != 0) = true := bne_iff_ne.mpr c63
       obtain rfl := Option.some.inj H
       refine Eq.mpr hP_.out ?_
       clear hP_ P_
       go_wp2_with fail
       go_ret
       exact ⟨by first | rfl | (simp [errW_none, errW_some] <;> rfl) | (simp [*, errW_none, errW_some] <;> rfl), by apply_rules (transparency := .reducible) only [HB.out, below_alloc, pw_below_drewN, below_drew1, below_set, GE282.out]⟩
  ·
   rw [if_neg c18] at H
   have c18b0 : (a0_3 == 0) = false := beq_eq_false_iff_ne.mpr c18
   have c18b1 : (a0_3 != 0) = true := bne_iff_ne.mpr c18
   obtain rfl := Option.some.inj H
   refine Eq.mpr hP_.out ?_
   clear hP_ P_
   go_wp2_with fail
   go_ret
   exact ⟨by first | rfl | (simp [errW_none, errW_some] <;> rfl) | (simp [*, errW_none, errW_some] <;> rfl), by apply_rules (transparency := .reducible) only [HB.out, below_alloc, pw_below_drewN, below_drew1, below_set, GE282.out]⟩

end Go.Proofs.Ytcagccodmmcnfaa.Q
