-- Written by drv.py, a program of this session, over the kit's print, out of the translation. Not trusted: Lean checks it.
import Derived.Test.YtdnfofhfllnhiaaQD0
namespace Go.Proofs.Ytdnfofhfllnhiaa.Q
open Go.RowKit Go.Proofs.YtdnfofhfllnhiaaW.PrintWords Go.Proofs.YtdnfofhfllnhiaaW.PrintLast Go.Proofs.YtdnfofhfllnhiaaW.PrintMore
attribute [local go_sem] max2_int min2_int max_two min_two max_three min_three max_four min_four   -- for this text's walks alone
set_option linter.unusedVariables false
set_option linter.unusedSimpArgs false

theorem blkc24_3 {w : World} {g : Nat} {t : TypeId} {v0 v1 v2 : Value} (h : w.heap[g]? = some (.cells #[v0, v1, v2] t (0, 0))) : w.cell? ⟨g, 0, none⟩ = some v0 ∧ w.cell? ⟨g, 1, none⟩ = some v1 ∧ w.cell? ⟨g, 2, none⟩ = some v2 := ⟨(blk_cell h 0).trans rfl, (blk_cell h 1).trans rfl, (blk_cell h 2).trans rfl⟩
theorem blkc24_5 {w : World} {g : Nat} {t : TypeId} {v0 v1 v2 v3 v4 : Value} (h : w.heap[g]? = some (.cells #[v0, v1, v2, v3, v4] t (0, 0))) : w.cell? ⟨g, 0, none⟩ = some v0 ∧ w.cell? ⟨g, 1, none⟩ = some v1 ∧ w.cell? ⟨g, 2, none⟩ = some v2 ∧ w.cell? ⟨g, 3, none⟩ = some v3 ∧ w.cell? ⟨g, 4, none⟩ = some v4 := ⟨(blk_cell h 0).trans rfl, (blk_cell h 1).trans rfl, (blk_cell h 2).trans rfl, (blk_cell h 3).trans rfl, (blk_cell h 4).trans rfl⟩
theorem blkf24_3 {w : World} {g : Nat} {t : TypeId} {cs : Array Value} (h : w.heap[g]? = some (.cells cs t (0, 0))) : w.frozen? ⟨g, 0, none⟩ = false ∧ w.frozen? ⟨g, 1, none⟩ = false ∧ w.frozen? ⟨g, 2, none⟩ = false := ⟨blk_frozen h 0, blk_frozen h 1, blk_frozen h 2⟩
theorem blkf24_5 {w : World} {g : Nat} {t : TypeId} {cs : Array Value} (h : w.heap[g]? = some (.cells cs t (0, 0))) : w.frozen? ⟨g, 0, none⟩ = false ∧ w.frozen? ⟨g, 1, none⟩ = false ∧ w.frozen? ⟨g, 2, none⟩ = false ∧ w.frozen? ⟨g, 3, none⟩ = false ∧ w.frozen? ⟨g, 4, none⟩ = false := ⟨blk_frozen h 0, blk_frozen h 1, blk_frozen h 2, blk_frozen h 3, blk_frozen h 4⟩
set_option maxHeartbeats 8000000 in
set_option maxRecDepth 100000 in
theorem spliceref12_May.calls (k : Nat) (A0_0 : Option Addr) (c0_0 : Nat) (l0_0 : List (S44)) (A0_1 : Option Addr) (c0_1 : Nat) (l0_1 : List (S55)) (a0_2 : Int) (r : Bool) (w : World) (hr0_0 : Kd.C k44 w A0_0 l0_0.length l0_0) (hc0_0 : l0_0.length ≤ c0_0) (hr0_1 : Kd.C k55 w A0_1 l0_1.length l0_1) (hc0_1 : l0_1.length ≤ c0_1) (h : spliceref12_May.f k l0_0 l0_1 a0_2 = some r) :
    Calls Try.prog 21 #[.agg #[.slice A0_0 l0_0.length c0_0, .slice A0_1 l0_1.length c0_1, .int .i64 a0_2]] w fun e w' => e = .returned (.bool r) ∧ Below w.heap.size w w' := by
 have hu25 := Try.underlying25
 have hu55 := Try.underlying55
 have HR0_0 := Aside0.mk hr0_0
 have HC0_0 := Aside0.mk hc0_0
 clear hr0_0 hc0_0
 have HR0_1 := Aside0.mk hr0_1
 have HC0_1 := Aside0.mk hc0_1
 clear hr0_1 hc0_1
 have HB := Aside0.mk (Below.refl w.heap.size w)
 have H : (if (l0_0.length : Int) > 300 then (spliceref12_May.j0 k true l0_0 l0_1 a0_2) else (spliceref12_May.j0 k (decide ((l0_1.length : Int) > 300)) l0_0 l0_1 a0_2)) = some r := h
 clear h
 have HC2 := Aside0.mk H
 clear H
 go_enter Try.func21, Try.ntmps21
 go_upto_region 1 with (first | ((with_reducible refine gate_dst (N := 1) rfl ?_); (try (refine gate_guard (by rfl) ?_; dsimp only)); refine box_event ?hg (N := 1) ?hd (cs := #[.slice A0_0 l0_0.length c0_0, .slice A0_1 l0_1.length c0_1, .int .i64 a0_2]) (t := 25) ?hr ?_; (case hd => rfl); (case hg => rfl); (case hr => first | (go_simp; done) | (go_simp; rfl)); intro gb244 hg w3 hbox hb; have n0_ := Aside0.mk (below_step (by apply_rules (transparency := .reducible) only [HB.out, below_alloc, pw_below_drewN, below_drew1]) hb); have n1_ := Aside0.mk (hbox); have n2_ := Aside0.mk ((by rw [hg]; exact (below_size (by apply_rules (transparency := .reducible) only [HB.out, below_alloc, pw_below_drewN, below_drew1])) : w.heap.size ≤ gb244)); have n3_ := Aside0.mk ((by rw [hg]; exact (below_size (by apply_rules (transparency := .reducible) only [HB.out, below_alloc, pw_below_drewN, below_drew1])) : w.heap.size ≤ gb244)); clear HB; have HB := n0_; have BK244 := n1_; have GW244 := n2_; have GE244 := n3_; clear n0_ n1_ n2_ n3_; clear hb hbox hg))
 (try simp only [Act.put, List.setIfInBounds_toArray, List.set_cons_zero, List.set_cons_succ])
 go_cut [15] (fun v15 wc => ∃ (kq : Nat) (x15_1 : Bool), v15 = .bool x15_1 ∧ Aside0 (spliceref12_May.j0 kq x15_1 l0_0 l0_1 a0_2 = some r) ∧ Aside0 (kq ≤ k) ∧ Aside0 (wc.heap[gb244]? = some (.cells #[(.slice A0_0 l0_0.length c0_0), (.slice A0_1 l0_1.length c0_1), .int .i64 a0_2] 25 (0, 0))) ∧ Aside0 (Below w.heap.size w wc))
 case first =>
  have H := HC2.out
  clear HC2
  by_cases c4 : (l0_0.length : Int) > 300
  ·
   rw [if_pos c4] at H
   have c4b0 : decide (300 < (l0_0.length : Int)) = true := decide_eq_true c4
   have c4b1 : decide (300 < l0_0.length) = true := decide_eq_true (by omega)
   clear c4
   (first | (generalize hb_ : decide (300 < (l0_0.length : Int)) = bb_ at *; subst c4b0; have c4b0 := hb_; clear hb_) | rw [c4b0] | (simp only [i64_w, i32_w]; rw [c4b0]) | skip)
   have H' := Aside0.mk H
   clear H
   obtain ⟨hcz5_0, hcz5_1, hcz5_2⟩ := blkc24_3 BK244.out
   obtain ⟨hfz5_0, hfz5_1, hfz5_2⟩ := blkf24_3 BK244.out
   go_wp2
   go_meet
   case rel => exact ⟨_, (true), (by first | rfl | (simp; done) | (simp [*]; done)), H', ⟨by first | omega | exact Nat.le_refl _⟩, ⟨by apply_rules (transparency := .reducible) only [blk_drewN, blk_drew, blk_alloc, BK244.out]⟩, ⟨by apply_rules (transparency := .reducible) only [HB.out, below_alloc, pw_below_drewN, below_drew1, below_set, GE244.out]⟩⟩
  ·
   rw [if_neg c4] at H
   have c4b0 : decide (300 < (l0_0.length : Int)) = false := decide_eq_false c4
   have c4b1 : decide (300 < l0_0.length) = false := decide_eq_false (by omega)
   clear c4
   (first | (generalize hb_ : decide (300 < (l0_0.length : Int)) = bb_ at *; subst c4b0; have c4b0 := hb_; clear hb_) | rw [c4b0] | (simp only [i64_w, i32_w]; rw [c4b0]) | skip)
   have H' := Aside0.mk H
   clear H
   obtain ⟨hcz6_0, hcz6_1, hcz6_2⟩ := blkc24_3 BK244.out
   obtain ⟨hfz6_0, hfz6_1, hfz6_2⟩ := blkf24_3 BK244.out
   go_wp2
   go_meet
   case rel => exact ⟨_, (decide ((l0_1.length : Int) > 300)), (by first | rfl | (simp; done) | (simp [*]; done)), H', ⟨by first | omega | exact Nat.le_refl _⟩, ⟨by apply_rules (transparency := .reducible) only [blk_drewN, blk_drew, blk_alloc, BK244.out]⟩, ⟨by apply_rules (transparency := .reducible) only [HB.out, below_alloc, pw_below_drewN, below_drew1, below_set, GE244.out]⟩⟩
 case rest =>
  clear HC2
  (try clear c2); (try clear p2); (try clear c4); (try clear c4b0); (try clear c4b1); (try clear hcz5_0); (try clear hcz5_1); (try clear hcz5_2); (try clear hcz6_0); (try clear hcz6_1); (try clear hcz6_2); (try clear hfz5_0); (try clear hfz5_1); (try clear hfz5_2); (try clear hfz6_0); (try clear hfz6_1); (try clear hfz6_2)
  obtain ⟨kq, x15_1, rfl, HA, HJ1, BK244, HB⟩ := hcut
  cases kq with
  | zero => exact absurd HA.out (by simp [spliceref12_May.j0])
  | succ kj1 =>
   have H := HA.out
   clear HA
   simp only [spliceref12_May.j0] at H
   by_cases c7 : x15_1 = true
   ·
    subst c7
    have H1 : (some false) = some r := by rw [if_pos rfl] at H; exact H
    clear H
    have H := H1
    clear H1
    obtain rfl := Option.some.inj H
    go_wp2
    go_ret
    exact ⟨by first | rfl | (simp [errW_none, errW_some] <;> rfl) | (simp [*, errW_none, errW_some] <;> rfl), by apply_rules (transparency := .reducible) only [HB.out, below_alloc, pw_below_drewN, below_drew1, below_set, GE244.out]⟩
   ·
    replace c7 := Bool.eq_false_iff.mpr c7
    subst c7
    rw [if_neg Bool.false_ne_true] at H
    have H' := Aside0.mk H
    clear H
    go_wp2
    go_loopg [3] kj1 (fun kq v3 w' => ∃ (x3_2 : Int), v3 = .int .i64 x3_2 ∧ Aside0 (spliceref12_May.l0 kq x3_2 l0_0 l0_1 a0_2 = some r) ∧ Aside0 (kq ≤ kj1) ∧ Aside0 (w'.heap[gb244]? = some (.cells #[(.slice A0_0 l0_0.length c0_0), (.slice A0_1 l0_1.length c0_1), .int .i64 a0_2] 25 (0, 0))) ∧ Aside0 (Below w.heap.size w w'))
    case atStart => exact ⟨(0), (by first | rfl | (simp; done) | (simp [*]; done)), H', ⟨Nat.le_refl _⟩, ⟨by apply_rules (transparency := .reducible) only [blk_drewN, blk_drew, blk_alloc, BK244.out]⟩, ⟨by apply_rules (transparency := .reducible) only [HB.out, below_alloc, pw_below_drewN, below_drew1, below_set, GE244.out]⟩⟩
    case round =>
     clear H'
     (try clear c2); (try clear p2); (try clear c4); (try clear c4b0); (try clear c4b1); (try clear c7); (try clear hcz5_0); (try clear hcz5_1); (try clear hcz5_2); (try clear hcz6_0); (try clear hcz6_1); (try clear hcz6_2); (try clear hfz5_0); (try clear hfz5_1); (try clear hfz5_2); (try clear hfz6_0); (try clear hfz6_1); (try clear hfz6_2); (try clear p2)
     obtain ⟨x3_2, rfl, HA, HK2, BK244, HB⟩ := hrel
     cases gk with
     | zero => exact absurd HA.out (by simp [spliceref12_May.l0])
     | succ k2 =>
      have H := HA.out
      clear HA
      simp only [spliceref12_May.l0] at H
      by_cases c8 : x3_2 < (l0_0.length : Int)
      ·
       rw [if_pos c8] at H
       have c8b0 : decide (x3_2 < (l0_0.length : Int)) = true := decide_eq_true c8
       clear c8
       by_cases c9 : 0 ≤ x3_2
       case neg =>
        rw [if_neg c9] at H
        exact absurd H (by simp)
       rw [if_pos c9] at H
       have c9b0 : decide (0 ≤ x3_2) = true := decide_eq_true c9
       clear c9
       by_cases c10 : (((rd_T44 l0_0 x3_2).f3).length : Int) > 70000
       ·
        rw [if_pos c10] at H
        have c10b0 : decide (70000 < (((rd_T44 l0_0 x3_2).f3).length : Int)) = true := decide_eq_true c10
        have c10b1 : decide (70000 < ((rd_T44 l0_0 x3_2).f3).length) = true := decide_eq_true (by omega)
        clear c10
        obtain rfl := Option.some.inj H
        obtain ⟨hcz11_0, hcz11_1, hcz11_2⟩ := blkc24_3 BK244.out
        obtain ⟨hfz11_0, hfz11_1, hfz11_2⟩ := blkf24_3 BK244.out
        have p245 : 0 ≤ (x3_2 : Int) := of_decide_eq_true (by first | (with_reducible assumption) | assumption)
        have q245 : x3_2 < (l0_0.length : Int) := of_decide_eq_true (by first | (with_reducible assumption) | assumption)
        obtain ⟨ad245, A245_3, c245_3, A245_4, c245_4, e245, hx245_0, hx245_1, hx245_2, hx245_3, hx245_4, hl245_3, hi245_3, hl245_4, hi245_4⟩ := at_T44 HR0_0.out x3_2 p245 q245
        cases e245
        replace hx245_0 := (HB.out.cell (World.block_lt_of_cell? w _ hx245_0)).trans hx245_0
        replace hx245_1 := (HB.out.cell (World.block_lt_of_cell? w _ hx245_1)).trans hx245_1
        replace hx245_2 := (HB.out.cell (World.block_lt_of_cell? w _ hx245_2)).trans hx245_2
        replace hx245_3 := (HB.out.cell (World.block_lt_of_cell? w _ hx245_3)).trans hx245_3
        replace hx245_4 := (HB.out.cell (World.block_lt_of_cell? w _ hx245_4)).trans hx245_4
        have HR245_3 := Aside0.mk hi245_3
        have HC245_3 := Aside0.mk hl245_3
        clear hi245_3 hl245_3
        have HR245_4 := Aside0.mk hi245_4
        have HC245_4 := Aside0.mk hl245_4
        clear hi245_4 hl245_4
        replace p245 := eq_true p245
        replace q245 := eq_true q245
        go_wp2
        go_ret
        exact ⟨by first | rfl | (simp [errW_none, errW_some] <;> rfl) | (simp [*, errW_none, errW_some] <;> rfl), by apply_rules (transparency := .reducible) only [HB.out, below_alloc, pw_below_drewN, below_drew1, below_set, GE244.out]⟩
       ·
        rw [if_neg c10] at H
        have c10b0 : decide (70000 < (((rd_T44 l0_0 x3_2).f3).length : Int)) = false := decide_eq_false c10
        have c10b1 : decide (70000 < ((rd_T44 l0_0 x3_2).f3).length) = false := decide_eq_false (by omega)
        clear c10
        by_cases c12 : (((rd_T44 l0_0 x3_2).f4).length : Int) > 300
        ·
         rw [if_pos c12] at H
         have c12b0 : decide (300 < (((rd_T44 l0_0 x3_2).f4).length : Int)) = true := decide_eq_true c12
         have c12b1 : decide (300 < ((rd_T44 l0_0 x3_2).f4).length) = true := decide_eq_true (by omega)
         clear c12
         obtain rfl := Option.some.inj H
         obtain ⟨hcz13_0, hcz13_1, hcz13_2⟩ := blkc24_3 BK244.out
         obtain ⟨hfz13_0, hfz13_1, hfz13_2⟩ := blkf24_3 BK244.out
         have p245 : 0 ≤ (x3_2 : Int) := of_decide_eq_true (by first | (with_reducible assumption) | assumption)
         have q245 : x3_2 < (l0_0.length : Int) := of_decide_eq_true (by first | (with_reducible assumption) | assumption)
         obtain ⟨ad245, A245_3, c245_3, A245_4, c245_4, e245, hx245_0, hx245_1, hx245_2, hx245_3, hx245_4, hl245_3, hi245_3, hl245_4, hi245_4⟩ := at_T44 HR0_0.out x3_2 p245 q245
         cases e245
         replace hx245_0 := (HB.out.cell (World.block_lt_of_cell? w _ hx245_0)).trans hx245_0
         replace hx245_1 := (HB.out.cell (World.block_lt_of_cell? w _ hx245_1)).trans hx245_1
         replace hx245_2 := (HB.out.cell (World.block_lt_of_cell? w _ hx245_2)).trans hx245_2
         replace hx245_3 := (HB.out.cell (World.block_lt_of_cell? w _ hx245_3)).trans hx245_3
         replace hx245_4 := (HB.out.cell (World.block_lt_of_cell? w _ hx245_4)).trans hx245_4
         have HR245_3 := Aside0.mk hi245_3
         have HC245_3 := Aside0.mk hl245_3
         clear hi245_3 hl245_3
         have HR245_4 := Aside0.mk hi245_4
         have HC245_4 := Aside0.mk hl245_4
         clear hi245_4 hl245_4
         replace p245 := eq_true p245
         replace q245 := eq_true q245
         have p246 : 0 ≤ (x3_2 : Int) := of_decide_eq_true (by first | (with_reducible assumption) | assumption)
         have q246 : x3_2 < (l0_0.length : Int) := of_decide_eq_true (by first | (with_reducible assumption) | assumption)
         obtain ⟨ad246, A246_3, c246_3, A246_4, c246_4, e246, hx246_0, hx246_1, hx246_2, hx246_3, hx246_4, hl246_3, hi246_3, hl246_4, hi246_4⟩ := at_T44 HR0_0.out x3_2 p246 q246
         obtain rfl : ad245 = ad246 := (by injection e246)
         replace hx246_0 := (HB.out.cell (World.block_lt_of_cell? w _ hx246_0)).trans hx246_0
         replace hx246_1 := (HB.out.cell (World.block_lt_of_cell? w _ hx246_1)).trans hx246_1
         replace hx246_2 := (HB.out.cell (World.block_lt_of_cell? w _ hx246_2)).trans hx246_2
         replace hx246_3 := (HB.out.cell (World.block_lt_of_cell? w _ hx246_3)).trans hx246_3
         replace hx246_4 := (HB.out.cell (World.block_lt_of_cell? w _ hx246_4)).trans hx246_4
         have HR246_3 := Aside0.mk hi246_3
         have HC246_3 := Aside0.mk hl246_3
         clear hi246_3 hl246_3
         have HR246_4 := Aside0.mk hi246_4
         have HC246_4 := Aside0.mk hl246_4
         clear hi246_4 hl246_4
         replace p246 := eq_true p246
         replace q246 := eq_true q246
         have ea_ := Option.some.inj (hx245_3.symm.trans hx246_3)
         injection ea_ with ea_ en_ ec_
         subst ea_
         subst ec_
         clear en_
         have ea_ := Option.some.inj (hx245_4.symm.trans hx246_4)
         injection ea_ with ea_ en_ ec_
         subst ea_
         subst ec_
         clear en_
         go_wp2
         go_ret
         exact ⟨by first | rfl | (simp [errW_none, errW_some] <;> rfl) | (simp [*, errW_none, errW_some] <;> rfl), by apply_rules (transparency := .reducible) only [HB.out, below_alloc, pw_below_drewN, below_drew1, below_set, GE244.out]⟩
        ·
         rw [if_neg c12] at H
         have c12b0 : decide (300 < (((rd_T44 l0_0 x3_2).f4).length : Int)) = false := decide_eq_false c12
         have c12b1 : decide (300 < ((rd_T44 l0_0 x3_2).f4).length) = false := decide_eq_false (by omega)
         clear c12
         have H' := Aside0.mk H
         clear H
         obtain ⟨hcz14_0, hcz14_1, hcz14_2⟩ := blkc24_3 BK244.out
         obtain ⟨hfz14_0, hfz14_1, hfz14_2⟩ := blkf24_3 BK244.out
         have p245 : 0 ≤ (x3_2 : Int) := of_decide_eq_true (by first | (with_reducible assumption) | assumption)
         have q245 : x3_2 < (l0_0.length : Int) := of_decide_eq_true (by first | (with_reducible assumption) | assumption)
         obtain ⟨ad245, A245_3, c245_3, A245_4, c245_4, e245, hx245_0, hx245_1, hx245_2, hx245_3, hx245_4, hl245_3, hi245_3, hl245_4, hi245_4⟩ := at_T44 HR0_0.out x3_2 p245 q245
         cases e245
         replace hx245_0 := (HB.out.cell (World.block_lt_of_cell? w _ hx245_0)).trans hx245_0
         replace hx245_1 := (HB.out.cell (World.block_lt_of_cell? w _ hx245_1)).trans hx245_1
         replace hx245_2 := (HB.out.cell (World.block_lt_of_cell? w _ hx245_2)).trans hx245_2
         replace hx245_3 := (HB.out.cell (World.block_lt_of_cell? w _ hx245_3)).trans hx245_3
         replace hx245_4 := (HB.out.cell (World.block_lt_of_cell? w _ hx245_4)).trans hx245_4
         have HR245_3 := Aside0.mk hi245_3
         have HC245_3 := Aside0.mk hl245_3
         clear hi245_3 hl245_3
         have HR245_4 := Aside0.mk hi245_4
         have HC245_4 := Aside0.mk hl245_4
         clear hi245_4 hl245_4
         replace p245 := eq_true p245
         replace q245 := eq_true q245
         have p246 : 0 ≤ (x3_2 : Int) := of_decide_eq_true (by first | (with_reducible assumption) | assumption)
         have q246 : x3_2 < (l0_0.length : Int) := of_decide_eq_true (by first | (with_reducible assumption) | assumption)
         obtain ⟨ad246, A246_3, c246_3, A246_4, c246_4, e246, hx246_0, hx246_1, hx246_2, hx246_3, hx246_4, hl246_3, hi246_3, hl246_4, hi246_4⟩ := at_T44 HR0_0.out x3_2 p246 q246
         obtain rfl : ad245 = ad246 := (by injection e246)
         replace hx246_0 := (HB.out.cell (World.block_lt_of_cell? w _ hx246_0)).trans hx246_0
         replace hx246_1 := (HB.out.cell (World.block_lt_of_cell? w _ hx246_1)).trans hx246_1
         replace hx246_2 := (HB.out.cell (World.block_lt_of_cell? w _ hx246_2)).trans hx246_2
         replace hx246_3 := (HB.out.cell (World.block_lt_of_cell? w _ hx246_3)).trans hx246_3
         replace hx246_4 := (HB.out.cell (World.block_lt_of_cell? w _ hx246_4)).trans hx246_4
         have HR246_3 := Aside0.mk hi246_3
         have HC246_3 := Aside0.mk hl246_3
         clear hi246_3 hl246_3
         have HR246_4 := Aside0.mk hi246_4
         have HC246_4 := Aside0.mk hl246_4
         clear hi246_4 hl246_4
         replace p246 := eq_true p246
         replace q246 := eq_true q246
         have ea_ := Option.some.inj (hx245_3.symm.trans hx246_3)
         injection ea_ with ea_ en_ ec_
         subst ea_
         subst ec_
         clear en_
         have ea_ := Option.some.inj (hx245_4.symm.trans hx246_4)
         injection ea_ with ea_ en_ ec_
         subst ea_
         subst ec_
         clear en_
         go_wp2
         go_roundg k2
         case measure => have := HJ1.out; have := HK2.out; omega
         case rel => exact ⟨(wrap64 (x3_2 + 1)), (by first | rfl | (simp; done) | (simp [*]; done)), H', ⟨by have := HJ1.out; have := HK2.out; omega⟩, ⟨by apply_rules (transparency := .reducible) only [blk_drewN, blk_drew, blk_alloc, BK244.out]⟩, ⟨by apply_rules (transparency := .reducible) only [HB.out, below_alloc, pw_below_drewN, below_drew1, below_set, GE244.out]⟩⟩
      ·
       rw [if_neg c8] at H
       have c8b0 : decide (x3_2 < (l0_0.length : Int)) = false := decide_eq_false c8
       clear c8
       have H' := Aside0.mk H
       clear H
       obtain ⟨hcz15_0, hcz15_1, hcz15_2⟩ := blkc24_3 BK244.out
       obtain ⟨hfz15_0, hfz15_1, hfz15_2⟩ := blkf24_3 BK244.out
       go_wp2
       go_loopg [4] k2 (fun kq v4 w' => ∃ (x4_3 : Int), v4 = .int .i64 x4_3 ∧ Aside0 (spliceref12_May.l1 kq x4_3 l0_0 l0_1 a0_2 = some r) ∧ Aside0 (kq ≤ k2) ∧ Aside0 (w'.heap[gb244]? = some (.cells #[(.slice A0_0 l0_0.length c0_0), (.slice A0_1 l0_1.length c0_1), .int .i64 a0_2] 25 (0, 0))) ∧ Aside0 (Below w.heap.size w w'))
       case atStart => exact ⟨(0), (by first | rfl | (simp; done) | (simp [*]; done)), H', ⟨Nat.le_refl _⟩, ⟨by apply_rules (transparency := .reducible) only [blk_drewN, blk_drew, blk_alloc, BK244.out]⟩, ⟨by apply_rules (transparency := .reducible) only [HB.out, below_alloc, pw_below_drewN, below_drew1, below_set, GE244.out]⟩⟩
       case round =>
        clear H'
        (try clear c1); (try clear c2); (try clear p2); (try clear q2); (try clear hx2); (try clear c4); (try clear c4b0); (try clear c4b1); (try clear p6); (try clear c7); (try clear c8); (try clear c8b0); (try clear c9); (try clear c9b0); (try clear c10); (try clear c10b0); (try clear c10b1); (try clear c12); (try clear c12b0); (try clear c12b1); (try clear hcz11_0); (try clear hcz11_1); (try clear hcz11_2); (try clear hcz13_0); (try clear hcz13_1); (try clear hcz13_2); (try clear hcz14_0); (try clear hcz14_1); (try clear hcz14_2); (try clear hcz15_0); (try clear hcz15_1); (try clear hcz15_2); (try clear hcz5_0); (try clear hcz5_1); (try clear hcz5_2); (try clear hcz6_0); (try clear hcz6_1); (try clear hcz6_2); (try clear hfz11_0); (try clear hfz11_1); (try clear hfz11_2); (try clear hfz13_0); (try clear hfz13_1); (try clear hfz13_2); (try clear hfz14_0); (try clear hfz14_1); (try clear hfz14_2); (try clear hfz15_0); (try clear hfz15_1); (try clear hfz15_2); (try clear hfz5_0); (try clear hfz5_1); (try clear hfz5_2); (try clear hfz6_0); (try clear hfz6_1); (try clear hfz6_2); (try clear hx245_0); (try clear hx245_1); (try clear hx245_2); (try clear hx245_3); (try clear hx245_4); (try clear hx246_0); (try clear hx246_1); (try clear hx246_2); (try clear hx246_3); (try clear hx246_4); (try clear p2); (try clear p245); (try clear p246); (try clear q245); (try clear q246)
        obtain ⟨x4_3, rfl, HA, HK3, BK244, HB⟩ := hrel
        cases gk with
        | zero => exact absurd HA.out (by simp [spliceref12_May.l1])
        | succ k3 =>
         have H := HA.out
         clear HA
         simp only [spliceref12_May.l1] at H
         by_cases c16 : x4_3 < (l0_1.length : Int)
         ·
          rw [if_pos c16] at H
          have c16b0 : decide (x4_3 < (l0_1.length : Int)) = true := decide_eq_true c16
          clear c16
          by_cases c17 : 0 ≤ x4_3
          case neg =>
           rw [if_neg c17] at H
           exact absurd H (by simp)
          rw [if_pos c17] at H
          have c17b0 : decide (0 ≤ x4_3) = true := decide_eq_true c17
          clear c17
          by_cases c18 : ((rd_T55 l0_1 x4_3).f0) < 1
          ·
           rw [if_pos c18] at H
           have c18b0 : decide (((rd_T55 l0_1 x4_3).f0) < 1) = true := decide_eq_true c18
           clear c18
           obtain rfl := Option.some.inj H
           obtain ⟨hcz19_0, hcz19_1, hcz19_2⟩ := blkc24_3 BK244.out
           obtain ⟨hfz19_0, hfz19_1, hfz19_2⟩ := blkf24_3 BK244.out
           have p247 : 0 ≤ (x4_3 : Int) := of_decide_eq_true (by first | (with_reducible assumption) | assumption)
           have q247 : x4_3 < (l0_1.length : Int) := of_decide_eq_true (by first | (with_reducible assumption) | assumption)
           obtain ⟨ad247, A247_3, c247_3, A247_4, c247_4, e247, hx247_0, hx247_1, hx247_2, hx247_3, hx247_4, hl247_3, hi247_3, hl247_4, hi247_4⟩ := at_T55 HR0_1.out x4_3 p247 q247
           cases e247
           replace hx247_0 := (HB.out.cell (World.block_lt_of_cell? w _ hx247_0)).trans hx247_0
           replace hx247_1 := (HB.out.cell (World.block_lt_of_cell? w _ hx247_1)).trans hx247_1
           replace hx247_2 := (HB.out.cell (World.block_lt_of_cell? w _ hx247_2)).trans hx247_2
           replace hx247_3 := (HB.out.cell (World.block_lt_of_cell? w _ hx247_3)).trans hx247_3
           replace hx247_4 := (HB.out.cell (World.block_lt_of_cell? w _ hx247_4)).trans hx247_4
           have HR247_3 := Aside0.mk hi247_3
           have HC247_3 := Aside0.mk hl247_3
           clear hi247_3 hl247_3
           have HR247_4 := Aside0.mk hi247_4
           have HC247_4 := Aside0.mk hl247_4
           clear hi247_4 hl247_4
           replace p247 := eq_true p247
           replace q247 := eq_true q247
           go_wp2_with (first | ((with_reducible refine gate_dst (N := 5) rfl ?_); (try (refine gate_guard (by rfl) ?_; dsimp only)); refine box_event ?hg (N := 5) ?hd (cs := #[.int .i64 0, .bool false, .int .i64 0, .slice none 0 0, .slice none 0 0]) (t := 55) ?hr ?_; (case hd => rfl); (case hg => rfl); (case hr => first | (go_simp; done) | (go_simp; rfl)); intro gb248 hg w20 hbox hb; have n0_ := Aside0.mk (blk_below (g := gb244) (o := .cells #[.slice A0_0 l0_0.length c0_0, .slice (some ad247) l0_1.length c0_1, .int .i64 a0_2] 25 (0, 0)) (by apply_rules (transparency := .reducible) only [blk_drewN, blk_drew, blk_alloc, BK244.out]) hb); have n1_ := Aside0.mk (below_step (by apply_rules (transparency := .reducible) only [HB.out, below_alloc, pw_below_drewN, below_drew1, below_set, GE244.out]) hb); have n2_ := Aside0.mk (hbox); have n3_ := Aside0.mk ((by rw [hg]; exact (below_size (by apply_rules (transparency := .reducible) only [HB.out, below_alloc, pw_below_drewN, below_drew1, below_set, GE244.out])) : w.heap.size ≤ gb248)); have n4_ := Aside0.mk ((by rw [hg]; exact (below_size (by apply_rules (transparency := .reducible) only [HB.out, below_alloc, pw_below_drewN, below_drew1, below_set, GE244.out])) : w.heap.size ≤ gb248)); have n5_ := Aside0.mk ((by rw [hg]; exact Nat.ne_of_lt (blk_lt (g := gb244) (o := .cells #[.slice A0_0 l0_0.length c0_0, .slice (some ad247) l0_1.length c0_1, .int .i64 a0_2] 25 (0, 0)) (by apply_rules (transparency := .reducible) only [blk_drewN, blk_drew, blk_alloc, BK244.out])) : gb244 ≠ gb248)); have n6_ := Aside0.mk ((by rw [hg]; exact Nat.ne_of_gt (blk_lt (g := gb244) (o := .cells #[.slice A0_0 l0_0.length c0_0, .slice (some ad247) l0_1.length c0_1, .int .i64 a0_2] 25 (0, 0)) (by apply_rules (transparency := .reducible) only [blk_drewN, blk_drew, blk_alloc, BK244.out])) : gb248 ≠ gb244)); clear BK244; clear HB; have BK244 := n0_; have HB := n1_; have BK248 := n2_; have GW248 := n3_; have GE248 := n4_; have NB244_248 := n5_; have NB248_244 := n6_; clear n0_ n1_ n2_ n3_ n4_ n5_ n6_; clear hb hbox hg; have hnb21 := NB248_244.out; have hnc21 := NB244_248.out; obtain ⟨hcz22_0, hcz22_1, hcz22_2, hcz22_3, hcz22_4⟩ := blkc24_5 BK248.out; obtain ⟨hfz22_0, hfz22_1, hfz22_2, hfz22_3, hfz22_4⟩ := blkf24_5 BK248.out))
           go_ret
           exact ⟨by first | rfl | (simp [errW_none, errW_some] <;> rfl) | (simp [*, errW_none, errW_some] <;> rfl), by apply_rules (transparency := .reducible) only [HB.out, below_alloc, pw_below_drewN, below_drew1, below_set, GE244.out, GE248.out]⟩
          ·
           rw [if_neg c18] at H
           have c18b0 : decide (((rd_T55 l0_1 x4_3).f0) < 1) = false := decide_eq_false c18
           clear c18
           by_cases c23 : ((rd_T55 l0_1 x4_3).f0) > 16
           ·
            rw [if_pos c23] at H
            have c23b0 : decide (16 < ((rd_T55 l0_1 x4_3).f0)) = true := decide_eq_true c23
            clear c23
            obtain rfl := Option.some.inj H
            obtain ⟨hcz24_0, hcz24_1, hcz24_2⟩ := blkc24_3 BK244.out
            obtain ⟨hfz24_0, hfz24_1, hfz24_2⟩ := blkf24_3 BK244.out
            have p247 : 0 ≤ (x4_3 : Int) := of_decide_eq_true (by first | (with_reducible assumption) | assumption)
            have q247 : x4_3 < (l0_1.length : Int) := of_decide_eq_true (by first | (with_reducible assumption) | assumption)
            obtain ⟨ad247, A247_3, c247_3, A247_4, c247_4, e247, hx247_0, hx247_1, hx247_2, hx247_3, hx247_4, hl247_3, hi247_3, hl247_4, hi247_4⟩ := at_T55 HR0_1.out x4_3 p247 q247
            cases e247
            replace hx247_0 := (HB.out.cell (World.block_lt_of_cell? w _ hx247_0)).trans hx247_0
            replace hx247_1 := (HB.out.cell (World.block_lt_of_cell? w _ hx247_1)).trans hx247_1
            replace hx247_2 := (HB.out.cell (World.block_lt_of_cell? w _ hx247_2)).trans hx247_2
            replace hx247_3 := (HB.out.cell (World.block_lt_of_cell? w _ hx247_3)).trans hx247_3
            replace hx247_4 := (HB.out.cell (World.block_lt_of_cell? w _ hx247_4)).trans hx247_4
            have HR247_3 := Aside0.mk hi247_3
            have HC247_3 := Aside0.mk hl247_3
            clear hi247_3 hl247_3
            have HR247_4 := Aside0.mk hi247_4
            have HC247_4 := Aside0.mk hl247_4
            clear hi247_4 hl247_4
            replace p247 := eq_true p247
            replace q247 := eq_true q247
            go_wp2_with (first | ((with_reducible refine gate_dst (N := 5) rfl ?_); (try (refine gate_guard (by rfl) ?_; dsimp only)); refine box_event ?hg (N := 5) ?hd (cs := #[.int .i64 0, .bool false, .int .i64 0, .slice none 0 0, .slice none 0 0]) (t := 55) ?hr ?_; (case hd => rfl); (case hg => rfl); (case hr => first | (go_simp; done) | (go_simp; rfl)); intro gb248 hg w25 hbox hb; have n0_ := Aside0.mk (blk_below (g := gb244) (o := .cells #[.slice A0_0 l0_0.length c0_0, .slice (some ad247) l0_1.length c0_1, .int .i64 a0_2] 25 (0, 0)) (by apply_rules (transparency := .reducible) only [blk_drewN, blk_drew, blk_alloc, BK244.out]) hb); have n1_ := Aside0.mk (below_step (by apply_rules (transparency := .reducible) only [HB.out, below_alloc, pw_below_drewN, below_drew1, below_set, GE244.out]) hb); have n2_ := Aside0.mk (hbox); have n3_ := Aside0.mk ((by rw [hg]; exact (below_size (by apply_rules (transparency := .reducible) only [HB.out, below_alloc, pw_below_drewN, below_drew1, below_set, GE244.out])) : w.heap.size ≤ gb248)); have n4_ := Aside0.mk ((by rw [hg]; exact (below_size (by apply_rules (transparency := .reducible) only [HB.out, below_alloc, pw_below_drewN, below_drew1, below_set, GE244.out])) : w.heap.size ≤ gb248)); have n5_ := Aside0.mk ((by rw [hg]; exact Nat.ne_of_lt (blk_lt (g := gb244) (o := .cells #[.slice A0_0 l0_0.length c0_0, .slice (some ad247) l0_1.length c0_1, .int .i64 a0_2] 25 (0, 0)) (by apply_rules (transparency := .reducible) only [blk_drewN, blk_drew, blk_alloc, BK244.out])) : gb244 ≠ gb248)); have n6_ := Aside0.mk ((by rw [hg]; exact Nat.ne_of_gt (blk_lt (g := gb244) (o := .cells #[.slice A0_0 l0_0.length c0_0, .slice (some ad247) l0_1.length c0_1, .int .i64 a0_2] 25 (0, 0)) (by apply_rules (transparency := .reducible) only [blk_drewN, blk_drew, blk_alloc, BK244.out])) : gb248 ≠ gb244)); clear BK244; clear HB; have BK244 := n0_; have HB := n1_; have BK248 := n2_; have GW248 := n3_; have GE248 := n4_; have NB244_248 := n5_; have NB248_244 := n6_; clear n0_ n1_ n2_ n3_ n4_ n5_ n6_; clear hb hbox hg; have hnb26 := NB248_244.out; have hnc26 := NB244_248.out; obtain ⟨hcz27_0, hcz27_1, hcz27_2, hcz27_3, hcz27_4⟩ := blkc24_5 BK248.out; obtain ⟨hfz27_0, hfz27_1, hfz27_2, hfz27_3, hfz27_4⟩ := blkf24_5 BK248.out))
            go_ret
            exact ⟨by first | rfl | (simp [errW_none, errW_some] <;> rfl) | (simp [*, errW_none, errW_some] <;> rfl), by apply_rules (transparency := .reducible) only [HB.out, below_alloc, pw_below_drewN, below_drew1, below_set, GE244.out, GE248.out]⟩
           ·
            rw [if_neg c23] at H
            have c23b0 : decide (16 < ((rd_T55 l0_1 x4_3).f0)) = false := decide_eq_false c23
            clear c23
            by_cases c28 : ((rd_T55 l0_1 x4_3).f2) < 1
            ·
             rw [if_pos c28] at H
             have c28b0 : decide (((rd_T55 l0_1 x4_3).f2) < 1) = true := decide_eq_true c28
             clear c28
             obtain rfl := Option.some.inj H
             obtain ⟨hcz29_0, hcz29_1, hcz29_2⟩ := blkc24_3 BK244.out
             obtain ⟨hfz29_0, hfz29_1, hfz29_2⟩ := blkf24_3 BK244.out
             have p247 : 0 ≤ (x4_3 : Int) := of_decide_eq_true (by first | (with_reducible assumption) | assumption)
             have q247 : x4_3 < (l0_1.length : Int) := of_decide_eq_true (by first | (with_reducible assumption) | assumption)
             obtain ⟨ad247, A247_3, c247_3, A247_4, c247_4, e247, hx247_0, hx247_1, hx247_2, hx247_3, hx247_4, hl247_3, hi247_3, hl247_4, hi247_4⟩ := at_T55 HR0_1.out x4_3 p247 q247
             cases e247
             replace hx247_0 := (HB.out.cell (World.block_lt_of_cell? w _ hx247_0)).trans hx247_0
             replace hx247_1 := (HB.out.cell (World.block_lt_of_cell? w _ hx247_1)).trans hx247_1
             replace hx247_2 := (HB.out.cell (World.block_lt_of_cell? w _ hx247_2)).trans hx247_2
             replace hx247_3 := (HB.out.cell (World.block_lt_of_cell? w _ hx247_3)).trans hx247_3
             replace hx247_4 := (HB.out.cell (World.block_lt_of_cell? w _ hx247_4)).trans hx247_4
             have HR247_3 := Aside0.mk hi247_3
             have HC247_3 := Aside0.mk hl247_3
             clear hi247_3 hl247_3
             have HR247_4 := Aside0.mk hi247_4
             have HC247_4 := Aside0.mk hl247_4
             clear hi247_4 hl247_4
             replace p247 := eq_true p247
             replace q247 := eq_true q247
             go_wp2_with (first | ((with_reducible refine gate_dst (N := 5) rfl ?_); (try (refine gate_guard (by rfl) ?_; dsimp only)); refine box_event ?hg (N := 5) ?hd (cs := #[.int .i64 0, .bool false, .int .i64 0, .slice none 0 0, .slice none 0 0]) (t := 55) ?hr ?_; (case hd => rfl); (case hg => rfl); (case hr => first | (go_simp; done) | (go_simp; rfl)); intro gb248 hg w30 hbox hb; have n0_ := Aside0.mk (blk_below (g := gb244) (o := .cells #[.slice A0_0 l0_0.length c0_0, .slice (some ad247) l0_1.length c0_1, .int .i64 a0_2] 25 (0, 0)) (by apply_rules (transparency := .reducible) only [blk_drewN, blk_drew, blk_alloc, BK244.out]) hb); have n1_ := Aside0.mk (below_step (by apply_rules (transparency := .reducible) only [HB.out, below_alloc, pw_below_drewN, below_drew1, below_set, GE244.out]) hb); have n2_ := Aside0.mk (hbox); have n3_ := Aside0.mk ((by rw [hg]; exact (below_size (by apply_rules (transparency := .reducible) only [HB.out, below_alloc, pw_below_drewN, below_drew1, below_set, GE244.out])) : w.heap.size ≤ gb248)); have n4_ := Aside0.mk ((by rw [hg]; exact (below_size (by apply_rules (transparency := .reducible) only [HB.out, below_alloc, pw_below_drewN, below_drew1, below_set, GE244.out])) : w.heap.size ≤ gb248)); have n5_ := Aside0.mk ((by rw [hg]; exact Nat.ne_of_lt (blk_lt (g := gb244) (o := .cells #[.slice A0_0 l0_0.length c0_0, .slice (some ad247) l0_1.length c0_1, .int .i64 a0_2] 25 (0, 0)) (by apply_rules (transparency := .reducible) only [blk_drewN, blk_drew, blk_alloc, BK244.out])) : gb244 ≠ gb248)); have n6_ := Aside0.mk ((by rw [hg]; exact Nat.ne_of_gt (blk_lt (g := gb244) (o := .cells #[.slice A0_0 l0_0.length c0_0, .slice (some ad247) l0_1.length c0_1, .int .i64 a0_2] 25 (0, 0)) (by apply_rules (transparency := .reducible) only [blk_drewN, blk_drew, blk_alloc, BK244.out])) : gb248 ≠ gb244)); clear BK244; clear HB; have BK244 := n0_; have HB := n1_; have BK248 := n2_; have GW248 := n3_; have GE248 := n4_; have NB244_248 := n5_; have NB248_244 := n6_; clear n0_ n1_ n2_ n3_ n4_ n5_ n6_; clear hb hbox hg; have hnb31 := NB248_244.out; have hnc31 := NB244_248.out; obtain ⟨hcz32_0, hcz32_1, hcz32_2, hcz32_3, hcz32_4⟩ := blkc24_5 BK248.out; obtain ⟨hfz32_0, hfz32_1, hfz32_2, hfz32_3, hfz32_4⟩ := blkf24_5 BK248.out))
             go_ret
             exact ⟨by first | rfl | (simp [errW_none, errW_some] <;> rfl) | (simp [*, errW_none, errW_some] <;> rfl), by apply_rules (transparency := .reducible) only [HB.out, below_alloc, pw_below_drewN, below_drew1, below_set, GE244.out, GE248.out]⟩
            ·
             rw [if_neg c28] at H
             have c28b0 : decide (((rd_T55 l0_1 x4_3).f2) < 1) = false := decide_eq_false c28
             clear c28
             by_cases c33 : ((rd_T55 l0_1 x4_3).f2) > 4096
             ·
              rw [if_pos c33] at H
              have c33b0 : decide (4096 < ((rd_T55 l0_1 x4_3).f2)) = true := decide_eq_true c33
              clear c33
              obtain rfl := Option.some.inj H
              obtain ⟨hcz34_0, hcz34_1, hcz34_2⟩ := blkc24_3 BK244.out
              obtain ⟨hfz34_0, hfz34_1, hfz34_2⟩ := blkf24_3 BK244.out
              have p247 : 0 ≤ (x4_3 : Int) := of_decide_eq_true (by first | (with_reducible assumption) | assumption)
              have q247 : x4_3 < (l0_1.length : Int) := of_decide_eq_true (by first | (with_reducible assumption) | assumption)
              obtain ⟨ad247, A247_3, c247_3, A247_4, c247_4, e247, hx247_0, hx247_1, hx247_2, hx247_3, hx247_4, hl247_3, hi247_3, hl247_4, hi247_4⟩ := at_T55 HR0_1.out x4_3 p247 q247
              cases e247
              replace hx247_0 := (HB.out.cell (World.block_lt_of_cell? w _ hx247_0)).trans hx247_0
              replace hx247_1 := (HB.out.cell (World.block_lt_of_cell? w _ hx247_1)).trans hx247_1
              replace hx247_2 := (HB.out.cell (World.block_lt_of_cell? w _ hx247_2)).trans hx247_2
              replace hx247_3 := (HB.out.cell (World.block_lt_of_cell? w _ hx247_3)).trans hx247_3
              replace hx247_4 := (HB.out.cell (World.block_lt_of_cell? w _ hx247_4)).trans hx247_4
              have HR247_3 := Aside0.mk hi247_3
              have HC247_3 := Aside0.mk hl247_3
              clear hi247_3 hl247_3
              have HR247_4 := Aside0.mk hi247_4
              have HC247_4 := Aside0.mk hl247_4
              clear hi247_4 hl247_4
              replace p247 := eq_true p247
              replace q247 := eq_true q247
              go_wp2_with (first | ((with_reducible refine gate_dst (N := 5) rfl ?_); (try (refine gate_guard (by rfl) ?_; dsimp only)); refine box_event ?hg (N := 5) ?hd (cs := #[.int .i64 0, .bool false, .int .i64 0, .slice none 0 0, .slice none 0 0]) (t := 55) ?hr ?_; (case hd => rfl); (case hg => rfl); (case hr => first | (go_simp; done) | (go_simp; rfl)); intro gb248 hg w35 hbox hb; have n0_ := Aside0.mk (blk_below (g := gb244) (o := .cells #[.slice A0_0 l0_0.length c0_0, .slice (some ad247) l0_1.length c0_1, .int .i64 a0_2] 25 (0, 0)) (by apply_rules (transparency := .reducible) only [blk_drewN, blk_drew, blk_alloc, BK244.out]) hb); have n1_ := Aside0.mk (below_step (by apply_rules (transparency := .reducible) only [HB.out, below_alloc, pw_below_drewN, below_drew1, below_set, GE244.out]) hb); have n2_ := Aside0.mk (hbox); have n3_ := Aside0.mk ((by rw [hg]; exact (below_size (by apply_rules (transparency := .reducible) only [HB.out, below_alloc, pw_below_drewN, below_drew1, below_set, GE244.out])) : w.heap.size ≤ gb248)); have n4_ := Aside0.mk ((by rw [hg]; exact (below_size (by apply_rules (transparency := .reducible) only [HB.out, below_alloc, pw_below_drewN, below_drew1, below_set, GE244.out])) : w.heap.size ≤ gb248)); have n5_ := Aside0.mk ((by rw [hg]; exact Nat.ne_of_lt (blk_lt (g := gb244) (o := .cells #[.slice A0_0 l0_0.length c0_0, .slice (some ad247) l0_1.length c0_1, .int .i64 a0_2] 25 (0, 0)) (by apply_rules (transparency := .reducible) only [blk_drewN, blk_drew, blk_alloc, BK244.out])) : gb244 ≠ gb248)); have n6_ := Aside0.mk ((by rw [hg]; exact Nat.ne_of_gt (blk_lt (g := gb244) (o := .cells #[.slice A0_0 l0_0.length c0_0, .slice (some ad247) l0_1.length c0_1, .int .i64 a0_2] 25 (0, 0)) (by apply_rules (transparency := .reducible) only [blk_drewN, blk_drew, blk_alloc, BK244.out])) : gb248 ≠ gb244)); clear BK244; clear HB; have BK244 := n0_; have HB := n1_; have BK248 := n2_; have GW248 := n3_; have GE248 := n4_; have NB244_248 := n5_; have NB248_244 := n6_; clear n0_ n1_ n2_ n3_ n4_ n5_ n6_; clear hb hbox hg; have hnb36 := NB248_244.out; have hnc36 := NB244_248.out; obtain ⟨hcz37_0, hcz37_1, hcz37_2, hcz37_3, hcz37_4⟩ := blkc24_5 BK248.out; obtain ⟨hfz37_0, hfz37_1, hfz37_2, hfz37_3, hfz37_4⟩ := blkf24_5 BK248.out))
              go_ret
              exact ⟨by first | rfl | (simp [errW_none, errW_some] <;> rfl) | (simp [*, errW_none, errW_some] <;> rfl), by apply_rules (transparency := .reducible) only [HB.out, below_alloc, pw_below_drewN, below_drew1, below_set, GE244.out, GE248.out]⟩
             ·
              rw [if_neg c33] at H
              have c33b0 : decide (4096 < ((rd_T55 l0_1 x4_3).f2)) = false := decide_eq_false c33
              clear c33
              by_cases c38 : (((rd_T55 l0_1 x4_3).f3).length : Int) > ((rd_T55 l0_1 x4_3).f2)
              ·
               rw [if_pos c38] at H
               have c38b0 : decide (((rd_T55 l0_1 x4_3).f2) < (((rd_T55 l0_1 x4_3).f3).length : Int)) = true := decide_eq_true c38
               clear c38
               obtain rfl := Option.some.inj H
               obtain ⟨hcz39_0, hcz39_1, hcz39_2⟩ := blkc24_3 BK244.out
               obtain ⟨hfz39_0, hfz39_1, hfz39_2⟩ := blkf24_3 BK244.out
               have p247 : 0 ≤ (x4_3 : Int) := of_decide_eq_true (by first | (with_reducible assumption) | assumption)
               have q247 : x4_3 < (l0_1.length : Int) := of_decide_eq_true (by first | (with_reducible assumption) | assumption)
               obtain ⟨ad247, A247_3, c247_3, A247_4, c247_4, e247, hx247_0, hx247_1, hx247_2, hx247_3, hx247_4, hl247_3, hi247_3, hl247_4, hi247_4⟩ := at_T55 HR0_1.out x4_3 p247 q247
               cases e247
               replace hx247_0 := (HB.out.cell (World.block_lt_of_cell? w _ hx247_0)).trans hx247_0
               replace hx247_1 := (HB.out.cell (World.block_lt_of_cell? w _ hx247_1)).trans hx247_1
               replace hx247_2 := (HB.out.cell (World.block_lt_of_cell? w _ hx247_2)).trans hx247_2
               replace hx247_3 := (HB.out.cell (World.block_lt_of_cell? w _ hx247_3)).trans hx247_3
               replace hx247_4 := (HB.out.cell (World.block_lt_of_cell? w _ hx247_4)).trans hx247_4
               have HR247_3 := Aside0.mk hi247_3
               have HC247_3 := Aside0.mk hl247_3
               clear hi247_3 hl247_3
               have HR247_4 := Aside0.mk hi247_4
               have HC247_4 := Aside0.mk hl247_4
               clear hi247_4 hl247_4
               replace p247 := eq_true p247
               replace q247 := eq_true q247
               go_wp2_with (first | ((with_reducible refine gate_dst (N := 5) rfl ?_); (try (refine gate_guard (by rfl) ?_; dsimp only)); refine box_event ?hg (N := 5) ?hd (cs := #[.int .i64 0, .bool false, .int .i64 0, .slice none 0 0, .slice none 0 0]) (t := 55) ?hr ?_; (case hd => rfl); (case hg => rfl); (case hr => first | (go_simp; done) | (go_simp; rfl)); intro gb248 hg w40 hbox hb; have n0_ := Aside0.mk (blk_below (g := gb244) (o := .cells #[.slice A0_0 l0_0.length c0_0, .slice (some ad247) l0_1.length c0_1, .int .i64 a0_2] 25 (0, 0)) (by apply_rules (transparency := .reducible) only [blk_drewN, blk_drew, blk_alloc, BK244.out]) hb); have n1_ := Aside0.mk (below_step (by apply_rules (transparency := .reducible) only [HB.out, below_alloc, pw_below_drewN, below_drew1, below_set, GE244.out]) hb); have n2_ := Aside0.mk (hbox); have n3_ := Aside0.mk ((by rw [hg]; exact (below_size (by apply_rules (transparency := .reducible) only [HB.out, below_alloc, pw_below_drewN, below_drew1, below_set, GE244.out])) : w.heap.size ≤ gb248)); have n4_ := Aside0.mk ((by rw [hg]; exact (below_size (by apply_rules (transparency := .reducible) only [HB.out, below_alloc, pw_below_drewN, below_drew1, below_set, GE244.out])) : w.heap.size ≤ gb248)); have n5_ := Aside0.mk ((by rw [hg]; exact Nat.ne_of_lt (blk_lt (g := gb244) (o := .cells #[.slice A0_0 l0_0.length c0_0, .slice (some ad247) l0_1.length c0_1, .int .i64 a0_2] 25 (0, 0)) (by apply_rules (transparency := .reducible) only [blk_drewN, blk_drew, blk_alloc, BK244.out])) : gb244 ≠ gb248)); have n6_ := Aside0.mk ((by rw [hg]; exact Nat.ne_of_gt (blk_lt (g := gb244) (o := .cells #[.slice A0_0 l0_0.length c0_0, .slice (some ad247) l0_1.length c0_1, .int .i64 a0_2] 25 (0, 0)) (by apply_rules (transparency := .reducible) only [blk_drewN, blk_drew, blk_alloc, BK244.out])) : gb248 ≠ gb244)); clear BK244; clear HB; have BK244 := n0_; have HB := n1_; have BK248 := n2_; have GW248 := n3_; have GE248 := n4_; have NB244_248 := n5_; have NB248_244 := n6_; clear n0_ n1_ n2_ n3_ n4_ n5_ n6_; clear hb hbox hg; have hnb41 := NB248_244.out; have hnc41 := NB244_248.out; obtain ⟨hcz42_0, hcz42_1, hcz42_2, hcz42_3, hcz42_4⟩ := blkc24_5 BK248.out; obtain ⟨hfz42_0, hfz42_1, hfz42_2, hfz42_3, hfz42_4⟩ := blkf24_5 BK248.out))
               go_ret
               exact ⟨by first | rfl | (simp [errW_none, errW_some] <;> rfl) | (simp [*, errW_none, errW_some] <;> rfl), by apply_rules (transparency := .reducible) only [HB.out, below_alloc, pw_below_drewN, below_drew1, below_set, GE244.out, GE248.out]⟩
              ·
               rw [if_neg c38] at H
               have c38b0 : decide (((rd_T55 l0_1 x4_3).f2) < (((rd_T55 l0_1 x4_3).f3).length : Int)) = false := decide_eq_false c38
               clear c38
               by_cases c43 : (((rd_T55 l0_1 x4_3).f4).length : Int) > 300
               ·
                rw [if_pos c43] at H
                have c43b0 : decide (300 < (((rd_T55 l0_1 x4_3).f4).length : Int)) = true := decide_eq_true c43
                have c43b1 : decide (300 < ((rd_T55 l0_1 x4_3).f4).length) = true := decide_eq_true (by omega)
                clear c43
                obtain rfl := Option.some.inj H
                obtain ⟨hcz44_0, hcz44_1, hcz44_2⟩ := blkc24_3 BK244.out
                obtain ⟨hfz44_0, hfz44_1, hfz44_2⟩ := blkf24_3 BK244.out
                have p247 : 0 ≤ (x4_3 : Int) := of_decide_eq_true (by first | (with_reducible assumption) | assumption)
                have q247 : x4_3 < (l0_1.length : Int) := of_decide_eq_true (by first | (with_reducible assumption) | assumption)
                obtain ⟨ad247, A247_3, c247_3, A247_4, c247_4, e247, hx247_0, hx247_1, hx247_2, hx247_3, hx247_4, hl247_3, hi247_3, hl247_4, hi247_4⟩ := at_T55 HR0_1.out x4_3 p247 q247
                cases e247
                replace hx247_0 := (HB.out.cell (World.block_lt_of_cell? w _ hx247_0)).trans hx247_0
                replace hx247_1 := (HB.out.cell (World.block_lt_of_cell? w _ hx247_1)).trans hx247_1
                replace hx247_2 := (HB.out.cell (World.block_lt_of_cell? w _ hx247_2)).trans hx247_2
                replace hx247_3 := (HB.out.cell (World.block_lt_of_cell? w _ hx247_3)).trans hx247_3
                replace hx247_4 := (HB.out.cell (World.block_lt_of_cell? w _ hx247_4)).trans hx247_4
                have HR247_3 := Aside0.mk hi247_3
                have HC247_3 := Aside0.mk hl247_3
                clear hi247_3 hl247_3
                have HR247_4 := Aside0.mk hi247_4
                have HC247_4 := Aside0.mk hl247_4
                clear hi247_4 hl247_4
                replace p247 := eq_true p247
                replace q247 := eq_true q247
                go_wp2_with (first | ((with_reducible refine gate_dst (N := 5) rfl ?_); (try (refine gate_guard (by rfl) ?_; dsimp only)); refine box_event ?hg (N := 5) ?hd (cs := #[.int .i64 0, .bool false, .int .i64 0, .slice none 0 0, .slice none 0 0]) (t := 55) ?hr ?_; (case hd => rfl); (case hg => rfl); (case hr => first | (go_simp; done) | (go_simp; rfl)); intro gb248 hg w45 hbox hb; have n0_ := Aside0.mk (blk_below (g := gb244) (o := .cells #[.slice A0_0 l0_0.length c0_0, .slice (some ad247) l0_1.length c0_1, .int .i64 a0_2] 25 (0, 0)) (by apply_rules (transparency := .reducible) only [blk_drewN, blk_drew, blk_alloc, BK244.out]) hb); have n1_ := Aside0.mk (below_step (by apply_rules (transparency := .reducible) only [HB.out, below_alloc, pw_below_drewN, below_drew1, below_set, GE244.out]) hb); have n2_ := Aside0.mk (hbox); have n3_ := Aside0.mk ((by rw [hg]; exact (below_size (by apply_rules (transparency := .reducible) only [HB.out, below_alloc, pw_below_drewN, below_drew1, below_set, GE244.out])) : w.heap.size ≤ gb248)); have n4_ := Aside0.mk ((by rw [hg]; exact (below_size (by apply_rules (transparency := .reducible) only [HB.out, below_alloc, pw_below_drewN, below_drew1, below_set, GE244.out])) : w.heap.size ≤ gb248)); have n5_ := Aside0.mk ((by rw [hg]; exact Nat.ne_of_lt (blk_lt (g := gb244) (o := .cells #[.slice A0_0 l0_0.length c0_0, .slice (some ad247) l0_1.length c0_1, .int .i64 a0_2] 25 (0, 0)) (by apply_rules (transparency := .reducible) only [blk_drewN, blk_drew, blk_alloc, BK244.out])) : gb244 ≠ gb248)); have n6_ := Aside0.mk ((by rw [hg]; exact Nat.ne_of_gt (blk_lt (g := gb244) (o := .cells #[.slice A0_0 l0_0.length c0_0, .slice (some ad247) l0_1.length c0_1, .int .i64 a0_2] 25 (0, 0)) (by apply_rules (transparency := .reducible) only [blk_drewN, blk_drew, blk_alloc, BK244.out])) : gb248 ≠ gb244)); clear BK244; clear HB; have BK244 := n0_; have HB := n1_; have BK248 := n2_; have GW248 := n3_; have GE248 := n4_; have NB244_248 := n5_; have NB248_244 := n6_; clear n0_ n1_ n2_ n3_ n4_ n5_ n6_; clear hb hbox hg; have hnb46 := NB248_244.out; have hnc46 := NB244_248.out; obtain ⟨hcz47_0, hcz47_1, hcz47_2, hcz47_3, hcz47_4⟩ := blkc24_5 BK248.out; obtain ⟨hfz47_0, hfz47_1, hfz47_2, hfz47_3, hfz47_4⟩ := blkf24_5 BK248.out))
                go_ret
                exact ⟨by first | rfl | (simp [errW_none, errW_some] <;> rfl) | (simp [*, errW_none, errW_some] <;> rfl), by apply_rules (transparency := .reducible) only [HB.out, below_alloc, pw_below_drewN, below_drew1, below_set, GE244.out, GE248.out]⟩
               ·
                rw [if_neg c43] at H
                have c43b0 : decide (300 < (((rd_T55 l0_1 x4_3).f4).length : Int)) = false := decide_eq_false c43
                have c43b1 : decide (300 < ((rd_T55 l0_1 x4_3).f4).length) = false := decide_eq_false (by omega)
                clear c43
                have H' := Aside0.mk H
                clear H
                obtain ⟨hcz48_0, hcz48_1, hcz48_2⟩ := blkc24_3 BK244.out
                obtain ⟨hfz48_0, hfz48_1, hfz48_2⟩ := blkf24_3 BK244.out
                have p247 : 0 ≤ (x4_3 : Int) := of_decide_eq_true (by first | (with_reducible assumption) | assumption)
                have q247 : x4_3 < (l0_1.length : Int) := of_decide_eq_true (by first | (with_reducible assumption) | assumption)
                obtain ⟨ad247, A247_3, c247_3, A247_4, c247_4, e247, hx247_0, hx247_1, hx247_2, hx247_3, hx247_4, hl247_3, hi247_3, hl247_4, hi247_4⟩ := at_T55 HR0_1.out x4_3 p247 q247
                cases e247
                replace hx247_0 := (HB.out.cell (World.block_lt_of_cell? w _ hx247_0)).trans hx247_0
                replace hx247_1 := (HB.out.cell (World.block_lt_of_cell? w _ hx247_1)).trans hx247_1
                replace hx247_2 := (HB.out.cell (World.block_lt_of_cell? w _ hx247_2)).trans hx247_2
                replace hx247_3 := (HB.out.cell (World.block_lt_of_cell? w _ hx247_3)).trans hx247_3
                replace hx247_4 := (HB.out.cell (World.block_lt_of_cell? w _ hx247_4)).trans hx247_4
                have HR247_3 := Aside0.mk hi247_3
                have HC247_3 := Aside0.mk hl247_3
                clear hi247_3 hl247_3
                have HR247_4 := Aside0.mk hi247_4
                have HC247_4 := Aside0.mk hl247_4
                clear hi247_4 hl247_4
                replace p247 := eq_true p247
                replace q247 := eq_true q247
                go_wp2_with (first | ((with_reducible refine gate_dst (N := 5) rfl ?_); (try (refine gate_guard (by rfl) ?_; dsimp only)); refine box_event ?hg (N := 5) ?hd (cs := #[.int .i64 0, .bool false, .int .i64 0, .slice none 0 0, .slice none 0 0]) (t := 55) ?hr ?_; (case hd => rfl); (case hg => rfl); (case hr => first | (go_simp; done) | (go_simp; rfl)); intro gb248 hg w49 hbox hb; have n0_ := Aside0.mk (blk_below (g := gb244) (o := .cells #[.slice A0_0 l0_0.length c0_0, .slice (some ad247) l0_1.length c0_1, .int .i64 a0_2] 25 (0, 0)) (by apply_rules (transparency := .reducible) only [blk_drewN, blk_drew, blk_alloc, BK244.out]) hb); have n1_ := Aside0.mk (below_step (by apply_rules (transparency := .reducible) only [HB.out, below_alloc, pw_below_drewN, below_drew1, below_set, GE244.out]) hb); have n2_ := Aside0.mk (hbox); have n3_ := Aside0.mk ((by rw [hg]; exact (below_size (by apply_rules (transparency := .reducible) only [HB.out, below_alloc, pw_below_drewN, below_drew1, below_set, GE244.out])) : w.heap.size ≤ gb248)); have n4_ := Aside0.mk ((by rw [hg]; exact (below_size (by apply_rules (transparency := .reducible) only [HB.out, below_alloc, pw_below_drewN, below_drew1, below_set, GE244.out])) : w.heap.size ≤ gb248)); have n5_ := Aside0.mk ((by rw [hg]; exact Nat.ne_of_lt (blk_lt (g := gb244) (o := .cells #[.slice A0_0 l0_0.length c0_0, .slice (some ad247) l0_1.length c0_1, .int .i64 a0_2] 25 (0, 0)) (by apply_rules (transparency := .reducible) only [blk_drewN, blk_drew, blk_alloc, BK244.out])) : gb244 ≠ gb248)); have n6_ := Aside0.mk ((by rw [hg]; exact Nat.ne_of_gt (blk_lt (g := gb244) (o := .cells #[.slice A0_0 l0_0.length c0_0, .slice (some ad247) l0_1.length c0_1, .int .i64 a0_2] 25 (0, 0)) (by apply_rules (transparency := .reducible) only [blk_drewN, blk_drew, blk_alloc, BK244.out])) : gb248 ≠ gb244)); clear BK244; clear HB; have BK244 := n0_; have HB := n1_; have BK248 := n2_; have GW248 := n3_; have GE248 := n4_; have NB244_248 := n5_; have NB248_244 := n6_; clear n0_ n1_ n2_ n3_ n4_ n5_ n6_; clear hb hbox hg; have hnb50 := NB248_244.out; have hnc50 := NB244_248.out; obtain ⟨hcz51_0, hcz51_1, hcz51_2, hcz51_3, hcz51_4⟩ := blkc24_5 BK248.out; obtain ⟨hfz51_0, hfz51_1, hfz51_2, hfz51_3, hfz51_4⟩ := blkf24_5 BK248.out))
                go_roundg k3
                case measure => have := HJ1.out; have := HK2.out; have := HK3.out; omega
                case rel => exact ⟨(wrap64 (x4_3 + 1)), (by first | rfl | (simp; done) | (simp [*]; done)), H', ⟨by have := HJ1.out; have := HK2.out; have := HK3.out; omega⟩, ⟨by apply_rules (transparency := .reducible) only [blk_drewN, blk_drew, blk_alloc, blk_far, NB244_248.out, BK244.out]⟩, ⟨by apply_rules (transparency := .reducible) only [HB.out, below_alloc, pw_below_drewN, below_drew1, below_set, GE244.out, GE248.out]⟩⟩
         ·
          rw [if_neg c16] at H
          have c16b0 : decide (x4_3 < (l0_1.length : Int)) = false := decide_eq_false c16
          clear c16
          obtain rfl := Option.some.inj H
          obtain ⟨hcz52_0, hcz52_1, hcz52_2⟩ := blkc24_3 BK244.out
          obtain ⟨hfz52_0, hfz52_1, hfz52_2⟩ := blkf24_3 BK244.out
          go_wp2
          go_ret
          exact ⟨by first | rfl | (simp [errW_none, errW_some] <;> rfl) | (simp [*, errW_none, errW_some] <;> rfl), by apply_rules (transparency := .reducible) only [HB.out, below_alloc, pw_below_drewN, below_drew1, below_set, GE244.out]⟩

end Go.Proofs.Ytdnfofhfllnhiaa.Q
