/- spliceref13.Right: the contract by hand, out of that of the reference's Get. Own work; a template. -/
import Derived.Test.YtdnfofhfllnhiaaQ0
import Derived.Test.YtdnfofhfllnhiaaHrtd
namespace Go.Proofs.Ytdnfofhfllnhiaa.Q
open Go.RowKit Go.Proofs.YtdnfofhfllnhiaaW.PrintWords Go.Proofs.YtdnfofhfllnhiaaW.PrintLast Go.Proofs.YtdnfofhfllnhiaaW.PrintMore
set_option linter.unusedVariables false
set_option linter.unusedSimpArgs false
theorem rd_memI (l : List Int) (i : Int) (h0 : 0 ≤ i) (h1 : i < (l.length : Int)) : rd l i ∈ l := by
  have h : i.toNat < l.length := by omega
  unfold rd
  simp [List.getD_eq_getElem?_getD, h]
theorem halt_rt {G : Prop} (k : ∀ P : Prop, Aside0 (P = G) → P) : G := k G ⟨rfl⟩
set_option maxHeartbeats 80000000 in
set_option maxRecDepth 100000 in
theorem right_calls (HGET : ∀ (a0 r1 r2 r3 r4 r5 : Int) (r6 : Bool) (w : World), spliceref02_Get.f a0 = some (r1, r2, r3, r4, r5, r6) → Calls Try.prog 17 #[.int .u32 a0] w fun e w' => e = .returned (.tuple #[.agg #[.int .i64 r1, .int .i64 r2, .int .i64 r3, .int .i64 r4, .int .i64 r5], .bool r6]) ∧ Below w.heap.size w w')
    (A0_0 : Option Addr) (c0_0 : Nat) (l0_0 : List S44) (A0_1 : Option Addr) (c0_1 : Nat) (l0_1 : List S55) (a0_2 : Int) (r : Bool) (w : World)
    (hr0_0 : Kd.C k44 w A0_0 l0_0.length l0_0) (hc0_0 : l0_0.length ≤ c0_0) (hr0_1 : Kd.C k55 w A0_1 l0_1.length l0_1) (hc0_1 : l0_1.length ≤ c0_1) (h : spliceref13_Right.f l0_0 l0_1 a0_2 = some r) :
    Calls Try.prog 22 #[.agg #[.slice A0_0 l0_0.length c0_0, .slice A0_1 l0_1.length c0_1, .int .i64 a0_2]] w fun e w' => e = .returned (.bool r) ∧ Below w.heap.size w w' := by
  have hS : rightS l0_0 l0_1 := by
    unfold spliceref13_Right.f at h
    split at h
    · assumption
    · cases h
  unfold spliceref13_Right.f at h
  rw [if_pos hS] at h
  have hr := Option.some.inj h
  clear h
  obtain ⟨hn, hm, hF, hD⟩ := hS
  unfold rightB at hr
  rw [← allFrom_all, ← allFrom_all] at hr
  have H0 := Aside0.mk hr
  have HF := Aside0.mk hF
  have HD := Aside0.mk hD
  have HR0 := Aside0.mk hr0_0
  have HR1 := Aside0.mk hr0_1
  clear hr hF hD hr0_0 hr0_1
  have hu25 := Try.underlying25
  have hu44 := Try.underlying44
  have hu46 := Try.underlying46
  have hu55 := Try.underlying55
  have hu49 := Try.underlying49
  go_enter Try.func22, Try.ntmps22
  go_wp2_with fail
  obtain ⟨gp, hgp⟩ : ∃ gp, gp = w.heap.size := ⟨_, rfl⟩
  have BP0 : Aside0 ((w.alloc (.cells #[.slice A0_0 l0_0.length c0_0, .slice A0_1 l0_1.length c0_1, .int .i64 a0_2] 25)).heap[gp]? = some (.cells #[.slice A0_0 l0_0.length c0_0, .slice A0_1 l0_1.length c0_1, .int .i64 a0_2] 25 (0, 0))) := ⟨by rw [hgp]; exact blk_new _ _⟩
  have HB0 : Aside0 (Below w.heap.size w (w.alloc (.cells #[.slice A0_0 l0_0.length c0_0, .slice A0_1 l0_1.length c0_1, .int .i64 a0_2] 25))) := ⟨below_alloc (Below.refl _ _) _⟩
  have ge : Aside0 (w.heap.size ≤ gp) := ⟨by omega⟩
  rw [← hgp]
  clear hgp
  generalize w.alloc (.cells #[.slice A0_0 l0_0.length c0_0, .slice A0_1 l0_1.length c0_1, .int .i64 a0_2] 25) = W0 at *
  generalize hrest : allFrom (fun i => relsD (l0_1.length) (rd_T55 l0_1 i)) l0_1.length 0 = rest at *
  have HRest := Aside0.mk hrest
  clear hrest
  go_loopg [3] (l0_0.length + 1) (fun kq v3 w' => ∃ i : Nat, v3 = .int .i64 i ∧ i ≤ l0_0.length ∧ Aside0 (i + kq = l0_0.length + 1) ∧ Aside0 ((allFrom (fun i => relsC l0_0.length l0_1.length (rd_T44 l0_0 i)) l0_0.length i && rest) = r) ∧ Aside0 (Below w.heap.size w w') ∧ Aside0 (w'.heap[gp]? = some (.cells #[.slice A0_0 l0_0.length c0_0, .slice A0_1 l0_1.length c0_1, .int .i64 a0_2] 25 (0, 0))))
  case atStart => exact ⟨0, rfl, Nat.zero_le _, ⟨by omega⟩, H0, HB0, BP0⟩
  case round =>
    clear H0 HB0 BP0
    obtain ⟨i, rfl, hi, hk, H, HB, BP⟩ := hrel
    have hcp0 : wr.cell? ⟨gp, 0, none⟩ = some (.slice A0_0 l0_0.length c0_0) := (blk_cell BP.out 0).trans rfl
    cases gk with
    | zero =>
      exfalso
      have := hk.out
      omega
    | succ k1 =>
      by_cases hlt : i < l0_0.length
      · obtain ⟨ad, A3, c3, A4, c4, ea, h0, h1, h2, h3, h4, hl3, hi3, hl4, hi4⟩ := at_T44 HR0.out (i : Int) (by omega) (by omega)
        subst ea
        replace h0 := (HB.out.cell (World.block_lt_of_cell? w _ h0)).trans h0
        replace h1 := (HB.out.cell (World.block_lt_of_cell? w _ h1)).trans h1
        replace h2 := (HB.out.cell (World.block_lt_of_cell? w _ h2)).trans h2
        replace h3 := (HB.out.cell (World.block_lt_of_cell? w _ h3)).trans h3
        replace h4 := (HB.out.cell (World.block_lt_of_cell? w _ h4)).trans h4
        simp only [Int.toNat_natCast] at h0 h1 h2 h3 h4
        have hfm : rd_T44 l0_0 (i : Int) ∈ l0_0 := by
          have e : rd_T44 l0_0 i = l0_0[i] := by unfold rd_T44; simp [List.getD_eq_getElem?_getD, hlt]
          rw [e]
          exact List.getElem_mem hlt
        obtain ⟨hf4, hf3, hfx⟩ := HF.out _ hfm
        have hfx := Aside0.mk hfx
        have H := H.out
        rw [allFrom_step _ _ _ hlt] at H
        have eF : relsC l0_0.length l0_1.length (rd_T44 l0_0 i) = allFrom (fun j => relC l0_0.length l0_1.length (rd_T44 l0_0 i) j) (rd_T44 l0_0 i).f4.length 0 := (allFrom_all _ _).symm
        rw [eF, Bool.and_assoc] at H
        clear eF
        have H := Aside0.mk H
        clear hfm
        generalize rd_T44 l0_0 (i : Int) = f at *
        go_wp2_with fail
        obtain ⟨W1, hW1⟩ : ∃ W1, W1 = wr.alloc (.cells #[.string f.f0, .bool f.f1, .bool f.f2, .slice A3 f.f3.length c3, .slice A4 f.f4.length c4] 44) := ⟨_, rfl⟩
        obtain ⟨gf, hgf⟩ : ∃ gf, gf = wr.heap.size := ⟨_, rfl⟩
        have BF1 : Aside0 (W1.heap[gf]? = some (.cells #[.string f.f0, .bool f.f1, .bool f.f2, .slice A3 f.f3.length c3, .slice A4 f.f4.length c4] 44 (0, 0))) := ⟨by rw [hW1, hgf]; exact blk_new _ _⟩
        have BP1 := Aside0.mk (by rw [hW1]; exact blk_alloc BP.out _ : W1.heap[gp]? = some (.cells #[.slice (some ad) l0_0.length c0_0, .slice A0_1 l0_1.length c0_1, .int .i64 a0_2] 25 (0, 0)))
        have HB1 := Aside0.mk (by rw [hW1]; exact below_alloc HB.out _ : Below w.heap.size w W1)
        rw [← hW1, ← hgf]
        clear hW1 hgf BP HB h0 h1 h2 h3 h4 hcp0
        have HR3 := Aside0.mk hi3
        have HR4 := Aside0.mk hi4
        clear hi3 hi4
        generalize htail : (allFrom (fun i => relsC l0_0.length l0_1.length (rd_T44 l0_0 i)) l0_0.length (i + 1) && rest) = tail at *
        have HTail := Aside0.mk htail
        clear htail
        go_loopg [5] (f.f4.length + 1) (fun kq v5 w' => ∃ j : Nat, v5 = .int .i64 j ∧ j ≤ f.f4.length ∧ Aside0 (j + kq = f.f4.length + 1) ∧ Aside0 ((allFrom (fun j => relC l0_0.length l0_1.length f j) f.f4.length j && tail) = r) ∧ Aside0 (Below w.heap.size w w') ∧ Aside0 (w'.heap[gp]? = some (.cells #[.slice (some ad) l0_0.length c0_0, .slice A0_1 l0_1.length c0_1, .int .i64 a0_2] 25 (0, 0))) ∧ Aside0 (w'.heap[gf]? = some (.cells #[.string f.f0, .bool f.f1, .bool f.f2, .slice A3 f.f3.length c3, .slice A4 f.f4.length c4] 44 (0, 0))))
        case atStart => exact ⟨0, rfl, Nat.zero_le _, ⟨by omega⟩, H, HB1, BP1, BF1⟩
        case round =>
          clear H HB1 BP1 BF1
          obtain ⟨j, rfl, hj, hk2, H, HB, BP, BF⟩ := hrel
          cases gk with
          | zero =>
            exfalso
            have := hk2.out
            omega
          | succ k2 =>
            have hcp0 : wr.cell? ⟨gp, 0, none⟩ = some (.slice (some ad) l0_0.length c0_0) := (blk_cell BP.out 0).trans rfl
            have hcf3 : wr.cell? ⟨gf, 3, none⟩ = some (.slice A3 f.f3.length c3) := (blk_cell BF.out 3).trans rfl
            have hcf4 : wr.cell? ⟨gf, 4, none⟩ = some (.slice A4 f.f4.length c4) := (blk_cell BF.out 4).trans rfl
            by_cases hjt : j < f.f4.length
            · obtain ⟨ad4, ea4, h0, h1, h2, h3⟩ := at_T46 HR4.out (j : Int) (by omega) (by omega)
              subst ea4
              have q0 := (HB.out.cell (World.block_lt_of_cell? w _ h0)).trans h0
              have q1 := (HB.out.cell (World.block_lt_of_cell? w _ h1)).trans h1
              have q2 := (HB.out.cell (World.block_lt_of_cell? w _ h2)).trans h2
              have q3 := (HB.out.cell (World.block_lt_of_cell? w _ h3)).trans h3
              clear h0 h1 h2 h3
              simp only [Int.toNat_natCast] at q0 q1 q2 q3
              rw [allFrom_step _ _ _ hjt] at H
              generalize hrr : rd_T46 f.f4 (j : Int) = rr at *
              go_wp2_with fail
              have hbad : relC0 f j = true → r = false := fun e => by rw [← H.out]; simp [relC, e]
              obtain ⟨W2, hW2⟩ : ∃ W2, W2 = wr.alloc (.cells #[.int .i64 rr.f0, .int .i64 rr.f1, .int .i64 rr.f2, .int .i64 rr.f3] 46) := ⟨_, rfl⟩
              obtain ⟨gr, hgr⟩ : ∃ gr, gr = wr.heap.size := ⟨_, rfl⟩
              have BR2 : Aside0 (W2.heap[gr]? = some (.cells #[.int .i64 rr.f0, .int .i64 rr.f1, .int .i64 rr.f2, .int .i64 rr.f3] 46 (0, 0))) := ⟨by rw [hW2, hgr]; exact blk_new _ _⟩
              have BP2 := Aside0.mk (by rw [hW2]; exact blk_alloc BP.out _ : W2.heap[gp]? = some (.cells #[.slice (some ad) l0_0.length c0_0, .slice A0_1 l0_1.length c0_1, .int .i64 a0_2] 25 (0, 0)))
              have BF2 := Aside0.mk (by rw [hW2]; exact blk_alloc BF.out _ : W2.heap[gf]? = some (.cells #[.string f.f0, .bool f.f1, .bool f.f2, .slice A3 f.f3.length c3, .slice (some ad4) f.f4.length c4] 44 (0, 0)))
              have HB2 := Aside0.mk (by rw [hW2]; exact below_alloc HB.out _ : Below w.heap.size w W2)
              rw [← hW2, ← hgr]
              clear hW2 hgr BP BF HB q0 q1 q2 q3 hcp0 hcf3 hcf4
              have hcp0 : W2.cell? ⟨gp, 0, none⟩ = some (.slice (some ad) l0_0.length c0_0) := (blk_cell BP2.out 0).trans rfl
              have hcp1 : W2.cell? ⟨gp, 1, none⟩ = some (.slice A0_1 l0_1.length c0_1) := (blk_cell BP2.out 1).trans rfl
              have hcf3 : W2.cell? ⟨gf, 3, none⟩ = some (.slice A3 f.f3.length c3) := (blk_cell BF2.out 3).trans rfl
              have hcf4 : W2.cell? ⟨gf, 4, none⟩ = some (.slice (some ad4) f.f4.length c4) := (blk_cell BF2.out 4).trans rfl
              have hr0 : W2.cell? ⟨gr, 0, none⟩ = some (.int .i64 rr.f0) := (blk_cell BR2.out 0).trans rfl
              have hr1 : W2.cell? ⟨gr, 1, none⟩ = some (.int .i64 rr.f1) := (blk_cell BR2.out 1).trans rfl
              have hr2 : W2.cell? ⟨gr, 2, none⟩ = some (.int .i64 rr.f2) := (blk_cell BR2.out 2).trans rfl
              have hr3 : W2.cell? ⟨gr, 3, none⟩ = some (.int .i64 rr.f3) := (blk_cell BR2.out 3).trans rfl
              by_cases c0 : rr.f0 < 0
              · as_aux_lemma =>
                  have e := Aside0.mk (hbad (by unfold relC0; simp only [hrr]; rw [if_pos c0]))
                  have d0 := decide_eq_true c0
                  go_quiet (fail)
                  go_wp2_with fail
                  go_ret
                  exact ⟨by rw [e.out]; rfl, pw_below_drewN HB2.out _⟩
              have d0 := decide_eq_false c0
              by_cases c1 : (f.f3.length : Int) ≤ rr.f0
              · as_aux_lemma =>
                  have e := Aside0.mk (hbad (by unfold relC0; simp only [hrr]; rw [if_neg c0, if_pos c1]))
                  have d1 := decide_eq_true c1
                  go_quiet (fail)
                  go_wp2_with fail
                  go_ret
                  exact ⟨by rw [e.out]; rfl, pw_below_drewN HB2.out _⟩
              have d1 := decide_eq_false c1
              have hleaf : ∀ {Q : Prop}, True := fun {_} => trivial
              by_cases c2 : 0 < j ∧ rr.f0 ≤ (rd_T46 f.f4 ((j : Int) - 1)).f0
              · as_aux_lemma =>
                  have e := Aside0.mk (hbad (by unfold relC0; simp only [hrr]; rw [if_neg c0, if_neg c1, if_pos c2]))
                  have w1 : IntKind.i64.wrap ((j : Int) - 1) = (j : Int) - 1 := (i64_w _).trans (by unfold wrap64; omega)
                  rw [← w1] at c2
                  obtain ⟨adp, eap, p0, p1, p2, p3⟩ := at_T46 HR4.out (IntKind.i64.wrap ((j : Int) - 1)) (by omega) (by omega)
                  cases eap
                  have p0 := (HB2.out.cell (World.block_lt_of_cell? w _ p0)).trans p0
                  have d2 : decide (0 < (j : Int)) = true := decide_eq_true (by omega)
                  have d2' : decide (0 < j) = true := decide_eq_true c2.1
                  have d3 := decide_eq_true c2.2
                  have i1 : (0 ≤ IntKind.i64.wrap ((j : Int) - 1)) = True := eq_true (by omega)
                  have i2 : (IntKind.i64.wrap ((j : Int) - 1) < (f.f4.length : Int)) = True := eq_true (by omega)
                  clear w1
                  go_quiet (fail)
                  go_wp2_with fail
                  go_ret
                  exact ⟨by rw [e.out]; rfl, pw_below_drewN HB2.out _⟩
              have d2c : j = 0 ∨ (0 < j ∧ ¬ rr.f0 ≤ (rd_T46 f.f4 (IntKind.i64.wrap ((j : Int) - 1))).f0 ∧ IntKind.i64.wrap ((j : Int) - 1) = (j : Int) - 1) := by
                by_cases hz : j = 0
                · exact .inl hz
                · have w1 : IntKind.i64.wrap ((j : Int) - 1) = (j : Int) - 1 := (i64_w _).trans (by unfold wrap64; omega)
                  refine .inr ⟨by omega, ?_, w1⟩
                  rw [w1]
                  exact fun hh => c2 ⟨by omega, hh⟩
              have dc : (0 < j ∧ rr.f0 ≤ (rd_T46 f.f4 ((j : Int) - 1)).f0) = False := eq_false c2
              clear c2
              have leaf0 : ∀ (b : Prop), True := fun _ => trivial
              rcases d2c with hz | ⟨hp, hlt2, w1⟩
              case inr =>
                have d2 : decide (0 < (j : Int)) = true := decide_eq_true (by omega)
                have d2' : decide (0 < j) = true := decide_eq_true hp
                have d3 := decide_eq_false hlt2
                obtain ⟨adp, eap, p0, p1, p2, p3⟩ := at_T46 HR4.out (IntKind.i64.wrap ((j : Int) - 1)) (by omega) (by omega)
                cases eap
                have p0 := (HB2.out.cell (World.block_lt_of_cell? w _ p0)).trans p0
                have i1 : (0 ≤ IntKind.i64.wrap ((j : Int) - 1)) = True := eq_true (by omega)
                have i2 : (IntKind.i64.wrap ((j : Int) - 1) < (f.f4.length : Int)) = True := eq_true (by omega)
                clear w1
                by_cases v3 : rr.f3 < -1048576
                · as_aux_lemma =>
                    have e := Aside0.mk (hbad (by unfold relC0; simp only [hrr, dc]; rw [if_neg c0, if_neg c1, if_neg id, if_pos v3]))
                    have d4 := decide_eq_true v3
                    go_quiet (fail)
                    go_wp2_with fail
                    go_ret
                    exact ⟨by rw [e.out]; rfl, pw_below_drewN HB2.out _⟩
                have d4 := decide_eq_false v3
                by_cases v4 : 1048576 < rr.f3
                · as_aux_lemma =>
                    have e := Aside0.mk (hbad (by unfold relC0; simp only [hrr, dc]; rw [if_neg c0, if_neg c1, if_neg id, if_neg v3, if_pos v4]))
                    have d5 := decide_eq_true v4
                    go_quiet (fail)
                    go_wp2_with fail
                    go_ret
                    exact ⟨by rw [e.out]; rfl, pw_below_drewN HB2.out _⟩
                have d5 := decide_eq_false v4
                by_cases v5 : rr.f2 < 0
                · as_aux_lemma =>
                    have e := Aside0.mk (hbad (by unfold relC0; simp only [hrr, dc]; rw [if_neg c0, if_neg c1, if_neg id, if_neg v3, if_neg v4, decide_eq_true v5]))
                    have d6 := decide_eq_true v5
                    go_quiet (fail)
                    go_wp2_with fail
                    go_ret
                    exact ⟨by rw [e.out]; rfl, pw_below_drewN HB2.out _⟩
                have d6 := decide_eq_false v5
                have e0 := Aside0.mk (show relC0 f j = false by unfold relC0; simp only [hrr, dc]; rw [if_neg c0, if_neg c1, if_neg id, if_neg v3, if_neg v4, d6])
                as_aux_lemma =>
                  go_quiet (fail)
                  rename_i nq
                  obtain ⟨W3, hW3⟩ : ∃ W3, W3 = W2.drewN nq := ⟨_, rfl⟩
                  have BP3 := Aside0.mk (by rw [hW3]; exact blk_drewN BP2.out _ : W3.heap[gp]? = some (.cells #[.slice (some ad) l0_0.length c0_0, .slice A0_1 l0_1.length c0_1, .int .i64 a0_2] 25 (0, 0)))
                  have BF3 := Aside0.mk (by rw [hW3]; exact blk_drewN BF2.out _ : W3.heap[gf]? = some (.cells #[.string f.f0, .bool f.f1, .bool f.f2, .slice A3 f.f3.length c3, .slice (some ad4) f.f4.length c4] 44 (0, 0)))
                  have BR3 := Aside0.mk (by rw [hW3]; exact blk_drewN BR2.out _ : W3.heap[gr]? = some (.cells #[.int .i64 rr.f0, .int .i64 rr.f1, .int .i64 rr.f2, .int .i64 rr.f3] 46 (0, 0)))
                  have HB3 := Aside0.mk (by rw [hW3]; exact pw_below_drewN HB2.out _ : Below w.heap.size w W3)
                  rw [← hW3]
                  clear hW3 BP2 BF2 BR2 HB2 hcp0 hcp1 hcf3 hcf4 hr0 hr1 hr2 hr3
                  obtain ⟨adc, eac, hcx⟩ := Kd.at_int HR3.out rr.f0 (by omega) (by omega)
                  subst eac
                  have hcx := (HB3.out.cell (World.block_lt_of_cell? w _ hcx)).trans hcx
                  have hcf3 : W3.cell? ⟨gf, 3, none⟩ = some (.slice (some adc) f.f3.length c3) := (blk_cell BF3.out 3).trans rfl
                  have hr0 : W3.cell? ⟨gr, 0, none⟩ = some (.int .i64 rr.f0) := (blk_cell BR3.out 0).trans rfl
                  have hx := hfx.out (rd f.f3 rr.f0) (rd_memI f.f3 rr.f0 (by omega) (by omega))
                  have hget : spliceref02_Get.f (rd f.f3 rr.f0) = some (Code.getB (Code.gW (rd f.f3 rr.f0))) := if_pos hx
                  have HC := H.out
                  unfold relC at HC
                  rw [e0.out] at HC
                  unfold relC1 at HC
                  simp only [hrr] at HC
                  rcases hgv : Code.getB (Code.gW (rd f.f3 rr.f0)) with ⟨g1, g2, g3, g4, g5, g6⟩
                  rw [hgv] at HC hget
                  simp only [Bool.not_false, Bool.true_and] at HC
                  have HC := Aside0.mk HC
                  have HG := Aside0.mk hget
                  clear hgv hget
                  generalize hxx : rd f.f3 rr.f0 = x at *
                  clear hxx
                  have p1 : (0 ≤ rr.f0) = True := eq_true (by omega)
                  have p2 : (rr.f0 < (f.f3.length : Int)) = True := eq_true (by omega)
                  go_wp2_with (first | ((with_reducible refine gate_callee (f := 17) rfl ?_); refine goesL_ (some 88) rfl rfl Try.func17 (by kernel_rfl) rfl #[.int .u32 x] rfl (by (try simp only [List.map_toArray, List.map_cons, List.map_nil]); first | done | rfl) ?_; (with_reducible refine (HGET x g1 g2 g3 g4 g5 g6 _ HG.out).mono ?_); rintro e w1 ⟨rfl, hb⟩; refine ⟨_, rfl, ?_⟩) | ((with_reducible refine gate_dst (N := 91) rfl ?_); refine halt_rt (fun P_ hP_ => ?_)))

                  have hP := hP_.out
                  clear hP_
                  obtain ⟨W4, hW4⟩ : ∃ W4, W4 = w1.alloc (.cells #[.int .i64 g1, .int .i64 g2, .int .i64 g3, .int .i64 g4, .int .i64 g5] 49) := ⟨_, rfl⟩
                  obtain ⟨gx, hgx⟩ : ∃ gx, gx = w1.heap.size := ⟨_, rfl⟩
                  have BP4 := Aside0.mk (by rw [hW4]; exact blk_alloc (blk_below (g := gp) BP3.out hb) _ : W4.heap[gp]? = some (.cells #[.slice (some ad) l0_0.length c0_0, .slice A0_1 l0_1.length c0_1, .int .i64 a0_2] 25 (0, 0)))
                  have BF4 := Aside0.mk (by rw [hW4]; exact blk_alloc (blk_below (g := gf) BF3.out hb) _ : W4.heap[gf]? = some (.cells #[.string f.f0, .bool f.f1, .bool f.f2, .slice (some adc) f.f3.length c3, .slice (some ad4) f.f4.length c4] 44 (0, 0)))
                  have BR4 := Aside0.mk (by rw [hW4]; exact blk_alloc (blk_below (g := gr) BR3.out hb) _ : W4.heap[gr]? = some (.cells #[.int .i64 rr.f0, .int .i64 rr.f1, .int .i64 rr.f2, .int .i64 rr.f3] 46 (0, 0)))
                  have BX4 := Aside0.mk (by rw [hW4, hgx]; exact blk_new w1 _ : W4.heap[gx]? = some (.cells #[.int .i64 g1, .int .i64 g2, .int .i64 g3, .int .i64 g4, .int .i64 g5] 49 (0, 0)))
                  have HB4 := Aside0.mk (by rw [hW4]; exact below_alloc (below_step HB3.out hb) _ : Below w.heap.size w W4)
                  rw [← hW4, ← hgx] at hP
                  clear hW4 hgx hb BP3 BF3 BR3 HB3 hcx hcf3 hr0
                  have hcp0 : W4.cell? ⟨gp, 0, none⟩ = some (.slice (some ad) l0_0.length c0_0) := (blk_cell BP4.out 0).trans rfl
                  have hcp1 : W4.cell? ⟨gp, 1, none⟩ = some (.slice A0_1 l0_1.length c0_1) := (blk_cell BP4.out 1).trans rfl
                  have hr1 : W4.cell? ⟨gr, 1, none⟩ = some (.int .i64 rr.f1) := (blk_cell BR4.out 1).trans rfl
                  have hr2 : W4.cell? ⟨gr, 2, none⟩ = some (.int .i64 rr.f2) := (blk_cell BR4.out 2).trans rfl
                  have hx0 : W4.cell? ⟨gx, 0, none⟩ = some (.int .i64 g1) := (blk_cell BX4.out 0).trans rfl
                  rcases Bool.eq_false_or_eq_true ((rr.f1 == 1)) with hK1 | hK1
                  · skip
                    have t1 : rr.f1 = 1 := beq_iff_eq.mp hK1
                    have hK2 : (rr.f1 == 2) = false := beq_eq_false_iff_ne.mpr (by omega)
                    have hK3 : (rr.f1 == 3) = false := beq_eq_false_iff_ne.mpr (by omega)
                    clear t1
                    rcases Bool.eq_false_or_eq_true ((g1 == 19)) with h19 | h19
                    · skip
                      rcases Bool.eq_false_or_eq_true (decide (rr.f2 < (l0_0.length : Int))) with hltn | hltn
                      · skip
                        refine Eq.mpr hP ?_
                        clear hP P_
                        go_wp2_with (first | ((with_reducible refine gate_dst (N := 112) rfl ?_); refine halt_rt (fun P_ hP_ => ?_)))
                        have hP := hP_.out
                        clear hP_
                        as_aux_lemma =>
                          refine Eq.mpr hP ?_
                          clear hP P_
                          go_wp2_with (first | ((with_reducible refine gate_dst (N := 139) rfl ?_); refine halt_rt (fun P_ hP_ => ?_)))
                          have hP := hP_.out
                          clear hP_
                          rcases Bool.eq_false_or_eq_true (g6) with hok | hok
                          · skip
                            subst hok
                            refine Eq.mpr hP ?_
                            clear hP P_
                            go_wp2_with fail
                            go_roundg k2
                            case measure => omega
                            case rel => exact ⟨j + 1, by go_num, by omega, ⟨by have := hk2.out; omega⟩, ⟨by have h := HC.out; simp only [hK1, hK2, hK3, h19, hltn, Bool.true_and, Bool.and_true, Bool.false_and, Bool.and_false, Bool.or_true, Bool.true_or, Bool.or_false, Bool.false_or] at h; exact h⟩, HB4, BP4, BF4⟩
                          · skip
                            subst hok
                            refine Eq.mpr hP ?_
                            clear hP P_
                            go_wp2_with fail
                            go_ret
                            exact ⟨by have h := HC.out; simp only [hK1, hK2, hK3, h19, hltn, Bool.true_and, Bool.and_true, Bool.false_and, Bool.and_false, Bool.or_true, Bool.true_or, Bool.or_false, Bool.false_or] at h; subst h; rfl, HB4.out⟩
                      · skip
                        refine Eq.mpr hP ?_
                        clear hP P_
                        go_wp2_with (first | ((with_reducible refine gate_dst (N := 112) rfl ?_); refine halt_rt (fun P_ hP_ => ?_)))
                        have hP := hP_.out
                        clear hP_
                        as_aux_lemma =>
                          refine Eq.mpr hP ?_
                          clear hP P_
                          go_wp2_with (first | ((with_reducible refine gate_dst (N := 139) rfl ?_); refine halt_rt (fun P_ hP_ => ?_)))
                          have hP := hP_.out
                          clear hP_
                          rcases Bool.eq_false_or_eq_true (g6) with hok | hok
                          · skip
                            subst hok
                            refine Eq.mpr hP ?_
                            clear hP P_
                            go_wp2_with fail
                            go_ret
                            exact ⟨by have h := HC.out; simp only [hK1, hK2, hK3, h19, hltn, Bool.true_and, Bool.and_true, Bool.false_and, Bool.and_false, Bool.or_true, Bool.true_or, Bool.or_false, Bool.false_or] at h; subst h; rfl, HB4.out⟩
                          · skip
                            subst hok
                            refine Eq.mpr hP ?_
                            clear hP P_
                            go_wp2_with fail
                            go_ret
                            exact ⟨by have h := HC.out; simp only [hK1, hK2, hK3, h19, hltn, Bool.true_and, Bool.and_true, Bool.false_and, Bool.and_false, Bool.or_true, Bool.true_or, Bool.or_false, Bool.false_or] at h; subst h; rfl, HB4.out⟩
                    · skip
                      rcases Bool.eq_false_or_eq_true ((g1 == 20)) with h20 | h20
                      · skip
                        rcases Bool.eq_false_or_eq_true (decide (rr.f2 < (l0_0.length : Int))) with hltn | hltn
                        · skip
                          refine Eq.mpr hP ?_
                          clear hP P_
                          go_wp2_with (first | ((with_reducible refine gate_dst (N := 112) rfl ?_); refine halt_rt (fun P_ hP_ => ?_)))
                          have hP := hP_.out
                          clear hP_
                          as_aux_lemma =>
                            refine Eq.mpr hP ?_
                            clear hP P_
                            go_wp2_with (first | ((with_reducible refine gate_dst (N := 139) rfl ?_); refine halt_rt (fun P_ hP_ => ?_)))
                            have hP := hP_.out
                            clear hP_
                            rcases Bool.eq_false_or_eq_true (g6) with hok | hok
                            · skip
                              subst hok
                              refine Eq.mpr hP ?_
                              clear hP P_
                              go_wp2_with fail
                              go_roundg k2
                              case measure => omega
                              case rel => exact ⟨j + 1, by go_num, by omega, ⟨by have := hk2.out; omega⟩, ⟨by have h := HC.out; simp only [hK1, hK2, hK3, h19, h20, hltn, Bool.true_and, Bool.and_true, Bool.false_and, Bool.and_false, Bool.or_true, Bool.true_or, Bool.or_false, Bool.false_or] at h; exact h⟩, HB4, BP4, BF4⟩
                            · skip
                              subst hok
                              refine Eq.mpr hP ?_
                              clear hP P_
                              go_wp2_with fail
                              go_ret
                              exact ⟨by have h := HC.out; simp only [hK1, hK2, hK3, h19, h20, hltn, Bool.true_and, Bool.and_true, Bool.false_and, Bool.and_false, Bool.or_true, Bool.true_or, Bool.or_false, Bool.false_or] at h; subst h; rfl, HB4.out⟩
                        · skip
                          refine Eq.mpr hP ?_
                          clear hP P_
                          go_wp2_with (first | ((with_reducible refine gate_dst (N := 112) rfl ?_); refine halt_rt (fun P_ hP_ => ?_)))
                          have hP := hP_.out
                          clear hP_
                          as_aux_lemma =>
                            refine Eq.mpr hP ?_
                            clear hP P_
                            go_wp2_with (first | ((with_reducible refine gate_dst (N := 139) rfl ?_); refine halt_rt (fun P_ hP_ => ?_)))
                            have hP := hP_.out
                            clear hP_
                            rcases Bool.eq_false_or_eq_true (g6) with hok | hok
                            · skip
                              subst hok
                              refine Eq.mpr hP ?_
                              clear hP P_
                              go_wp2_with fail
                              go_ret
                              exact ⟨by have h := HC.out; simp only [hK1, hK2, hK3, h19, h20, hltn, Bool.true_and, Bool.and_true, Bool.false_and, Bool.and_false, Bool.or_true, Bool.true_or, Bool.or_false, Bool.false_or] at h; subst h; rfl, HB4.out⟩
                            · skip
                              subst hok
                              refine Eq.mpr hP ?_
                              clear hP P_
                              go_wp2_with fail
                              go_ret
                              exact ⟨by have h := HC.out; simp only [hK1, hK2, hK3, h19, h20, hltn, Bool.true_and, Bool.and_true, Bool.false_and, Bool.and_false, Bool.or_true, Bool.true_or, Bool.or_false, Bool.false_or] at h; subst h; rfl, HB4.out⟩
                      · skip
                        refine Eq.mpr hP ?_
                        clear hP P_
                        go_wp2_with (first | ((with_reducible refine gate_dst (N := 112) rfl ?_); refine halt_rt (fun P_ hP_ => ?_)))
                        have hP := hP_.out
                        clear hP_
                        as_aux_lemma =>
                          refine Eq.mpr hP ?_
                          clear hP P_
                          go_wp2_with (first | ((with_reducible refine gate_dst (N := 139) rfl ?_); refine halt_rt (fun P_ hP_ => ?_)))
                          have hP := hP_.out
                          clear hP_
                          rcases Bool.eq_false_or_eq_true (g6) with hok | hok
                          · skip
                            subst hok
                            refine Eq.mpr hP ?_
                            clear hP P_
                            go_wp2_with fail
                            go_ret
                            exact ⟨by have h := HC.out; simp only [hK1, hK2, hK3, h19, h20, Bool.true_and, Bool.and_true, Bool.false_and, Bool.and_false, Bool.or_true, Bool.true_or, Bool.or_false, Bool.false_or] at h; subst h; rfl, HB4.out⟩
                          · skip
                            subst hok
                            refine Eq.mpr hP ?_
                            clear hP P_
                            go_wp2_with fail
                            go_ret
                            exact ⟨by have h := HC.out; simp only [hK1, hK2, hK3, h19, h20, Bool.true_and, Bool.and_true, Bool.false_and, Bool.and_false, Bool.or_true, Bool.true_or, Bool.or_false, Bool.false_or] at h; subst h; rfl, HB4.out⟩
                  · skip
                    refine Eq.mpr hP ?_
                    clear hP P_
                    go_wp2_with (first | ((with_reducible refine gate_dst (N := 112) rfl ?_); refine halt_rt (fun P_ hP_ => ?_)))
                    have hP := hP_.out
                    clear hP_
                    rcases Bool.eq_false_or_eq_true ((rr.f1 == 2)) with hK2 | hK2
                    · skip
                      have t1 : rr.f1 = 2 := beq_iff_eq.mp hK2
                      have hK1 : (rr.f1 == 1) = false := beq_eq_false_iff_ne.mpr (by omega)
                      have hK3 : (rr.f1 == 3) = false := beq_eq_false_iff_ne.mpr (by omega)
                      clear t1
                      rcases Bool.eq_false_or_eq_true ((g1 == 9)) with h9 | h9
                      · skip
                        rcases Bool.eq_false_or_eq_true (decide (rr.f2 < (l0_1.length : Int))) with hltm | hltm
                        · skip
                          as_aux_lemma =>
                            refine Eq.mpr hP ?_
                            clear hP P_
                            go_wp2_with (first | ((with_reducible refine gate_dst (N := 139) rfl ?_); refine halt_rt (fun P_ hP_ => ?_)))
                            have hP := hP_.out
                            clear hP_
                            rcases Bool.eq_false_or_eq_true (g6) with hok | hok
                            · skip
                              subst hok
                              refine Eq.mpr hP ?_
                              clear hP P_
                              go_wp2_with fail
                              go_roundg k2
                              case measure => omega
                              case rel => exact ⟨j + 1, by go_num, by omega, ⟨by have := hk2.out; omega⟩, ⟨by have h := HC.out; simp only [hK1, hK2, hK3, h9, hltm, Bool.true_and, Bool.and_true, Bool.false_and, Bool.and_false, Bool.or_true, Bool.true_or, Bool.or_false, Bool.false_or] at h; exact h⟩, HB4, BP4, BF4⟩
                            · skip
                              subst hok
                              refine Eq.mpr hP ?_
                              clear hP P_
                              go_wp2_with fail
                              go_ret
                              exact ⟨by have h := HC.out; simp only [hK1, hK2, hK3, h9, hltm, Bool.true_and, Bool.and_true, Bool.false_and, Bool.and_false, Bool.or_true, Bool.true_or, Bool.or_false, Bool.false_or] at h; subst h; rfl, HB4.out⟩
                        · skip
                          as_aux_lemma =>
                            refine Eq.mpr hP ?_
                            clear hP P_
                            go_wp2_with (first | ((with_reducible refine gate_dst (N := 139) rfl ?_); refine halt_rt (fun P_ hP_ => ?_)))
                            have hP := hP_.out
                            clear hP_
                            rcases Bool.eq_false_or_eq_true (g6) with hok | hok
                            · skip
                              subst hok
                              refine Eq.mpr hP ?_
                              clear hP P_
                              go_wp2_with fail
                              go_ret
                              exact ⟨by have h := HC.out; simp only [hK1, hK2, hK3, h9, hltm, Bool.true_and, Bool.and_true, Bool.false_and, Bool.and_false, Bool.or_true, Bool.true_or, Bool.or_false, Bool.false_or] at h; subst h; rfl, HB4.out⟩
                            · skip
                              subst hok
                              refine Eq.mpr hP ?_
                              clear hP P_
                              go_wp2_with fail
                              go_ret
                              exact ⟨by have h := HC.out; simp only [hK1, hK2, hK3, h9, hltm, Bool.true_and, Bool.and_true, Bool.false_and, Bool.and_false, Bool.or_true, Bool.true_or, Bool.or_false, Bool.false_or] at h; subst h; rfl, HB4.out⟩
                      · skip
                        as_aux_lemma =>
                          refine Eq.mpr hP ?_
                          clear hP P_
                          go_wp2_with (first | ((with_reducible refine gate_dst (N := 139) rfl ?_); refine halt_rt (fun P_ hP_ => ?_)))
                          have hP := hP_.out
                          clear hP_
                          rcases Bool.eq_false_or_eq_true (g6) with hok | hok
                          · skip
                            subst hok
                            refine Eq.mpr hP ?_
                            clear hP P_
                            go_wp2_with fail
                            go_ret
                            exact ⟨by have h := HC.out; simp only [hK1, hK2, hK3, h9, Bool.true_and, Bool.and_true, Bool.false_and, Bool.and_false, Bool.or_true, Bool.true_or, Bool.or_false, Bool.false_or] at h; subst h; rfl, HB4.out⟩
                          · skip
                            subst hok
                            refine Eq.mpr hP ?_
                            clear hP P_
                            go_wp2_with fail
                            go_ret
                            exact ⟨by have h := HC.out; simp only [hK1, hK2, hK3, h9, Bool.true_and, Bool.and_true, Bool.false_and, Bool.and_false, Bool.or_true, Bool.true_or, Bool.or_false, Bool.false_or] at h; subst h; rfl, HB4.out⟩
                    · skip
                      rcases Bool.eq_false_or_eq_true ((rr.f1 == 3)) with hK3 | hK3
                      · skip
                        have t1 : rr.f1 = 3 := beq_iff_eq.mp hK3
                        have hK1 : (rr.f1 == 1) = false := beq_eq_false_iff_ne.mpr (by omega)
                        have hK2 : (rr.f1 == 2) = false := beq_eq_false_iff_ne.mpr (by omega)
                        clear t1
                        rcases Bool.eq_false_or_eq_true ((g1 == 10)) with h10 | h10
                        · skip
                          rcases Bool.eq_false_or_eq_true (decide (rr.f2 < (l0_1.length : Int))) with hltm | hltm
                          · skip
                            as_aux_lemma =>
                              refine Eq.mpr hP ?_
                              clear hP P_
                              go_wp2_with (first | ((with_reducible refine gate_dst (N := 139) rfl ?_); refine halt_rt (fun P_ hP_ => ?_)))
                              have hP := hP_.out
                              clear hP_
                              rcases Bool.eq_false_or_eq_true (g6) with hok | hok
                              · skip
                                subst hok
                                refine Eq.mpr hP ?_
                                clear hP P_
                                go_wp2_with fail
                                go_roundg k2
                                case measure => omega
                                case rel => exact ⟨j + 1, by go_num, by omega, ⟨by have := hk2.out; omega⟩, ⟨by have h := HC.out; simp only [hK1, hK2, hK3, h10, hltm, Bool.true_and, Bool.and_true, Bool.false_and, Bool.and_false, Bool.or_true, Bool.true_or, Bool.or_false, Bool.false_or] at h; exact h⟩, HB4, BP4, BF4⟩
                              · skip
                                subst hok
                                refine Eq.mpr hP ?_
                                clear hP P_
                                go_wp2_with fail
                                go_ret
                                exact ⟨by have h := HC.out; simp only [hK1, hK2, hK3, h10, hltm, Bool.true_and, Bool.and_true, Bool.false_and, Bool.and_false, Bool.or_true, Bool.true_or, Bool.or_false, Bool.false_or] at h; subst h; rfl, HB4.out⟩
                          · skip
                            as_aux_lemma =>
                              refine Eq.mpr hP ?_
                              clear hP P_
                              go_wp2_with (first | ((with_reducible refine gate_dst (N := 139) rfl ?_); refine halt_rt (fun P_ hP_ => ?_)))
                              have hP := hP_.out
                              clear hP_
                              rcases Bool.eq_false_or_eq_true (g6) with hok | hok
                              · skip
                                subst hok
                                refine Eq.mpr hP ?_
                                clear hP P_
                                go_wp2_with fail
                                go_ret
                                exact ⟨by have h := HC.out; simp only [hK1, hK2, hK3, h10, hltm, Bool.true_and, Bool.and_true, Bool.false_and, Bool.and_false, Bool.or_true, Bool.true_or, Bool.or_false, Bool.false_or] at h; subst h; rfl, HB4.out⟩
                              · skip
                                subst hok
                                refine Eq.mpr hP ?_
                                clear hP P_
                                go_wp2_with fail
                                go_ret
                                exact ⟨by have h := HC.out; simp only [hK1, hK2, hK3, h10, hltm, Bool.true_and, Bool.and_true, Bool.false_and, Bool.and_false, Bool.or_true, Bool.true_or, Bool.or_false, Bool.false_or] at h; subst h; rfl, HB4.out⟩
                        · skip
                          as_aux_lemma =>
                            refine Eq.mpr hP ?_
                            clear hP P_
                            go_wp2_with (first | ((with_reducible refine gate_dst (N := 139) rfl ?_); refine halt_rt (fun P_ hP_ => ?_)))
                            have hP := hP_.out
                            clear hP_
                            rcases Bool.eq_false_or_eq_true (g6) with hok | hok
                            · skip
                              subst hok
                              refine Eq.mpr hP ?_
                              clear hP P_
                              go_wp2_with fail
                              go_ret
                              exact ⟨by have h := HC.out; simp only [hK1, hK2, hK3, h10, Bool.true_and, Bool.and_true, Bool.false_and, Bool.and_false, Bool.or_true, Bool.true_or, Bool.or_false, Bool.false_or] at h; subst h; rfl, HB4.out⟩
                            · skip
                              subst hok
                              refine Eq.mpr hP ?_
                              clear hP P_
                              go_wp2_with fail
                              go_ret
                              exact ⟨by have h := HC.out; simp only [hK1, hK2, hK3, h10, Bool.true_and, Bool.and_true, Bool.false_and, Bool.and_false, Bool.or_true, Bool.true_or, Bool.or_false, Bool.false_or] at h; subst h; rfl, HB4.out⟩
                      · skip
                        as_aux_lemma =>
                          refine Eq.mpr hP ?_
                          clear hP P_
                          go_wp2_with (first | ((with_reducible refine gate_dst (N := 139) rfl ?_); refine halt_rt (fun P_ hP_ => ?_)))
                          have hP := hP_.out
                          clear hP_
                          rcases Bool.eq_false_or_eq_true (g6) with hok | hok
                          · skip
                            subst hok
                            refine Eq.mpr hP ?_
                            clear hP P_
                            go_wp2_with fail
                            go_ret
                            exact ⟨by have h := HC.out; simp only [hK1, hK2, hK3, Bool.true_and, Bool.and_true, Bool.false_and, Bool.and_false, Bool.or_true, Bool.true_or, Bool.or_false, Bool.false_or] at h; subst h; rfl, HB4.out⟩
                          · skip
                            subst hok
                            refine Eq.mpr hP ?_
                            clear hP P_
                            go_wp2_with fail
                            go_ret
                            exact ⟨by have h := HC.out; simp only [hK1, hK2, hK3, Bool.true_and, Bool.and_true, Bool.false_and, Bool.and_false, Bool.or_true, Bool.true_or, Bool.or_false, Bool.false_or] at h; subst h; rfl, HB4.out⟩
              case inl =>
                have d2 : decide (0 < (j : Int)) = false := decide_eq_false (by omega)
                have d2' : decide (0 < j) = false := decide_eq_false (by omega)
                clear hz
                by_cases v3 : rr.f3 < -1048576
                · as_aux_lemma =>
                    have e := Aside0.mk (hbad (by unfold relC0; simp only [hrr, dc]; rw [if_neg c0, if_neg c1, if_neg id, if_pos v3]))
                    have d4 := decide_eq_true v3
                    go_quiet (fail)
                    go_wp2_with fail
                    go_ret
                    exact ⟨by rw [e.out]; rfl, pw_below_drewN HB2.out _⟩
                have d4 := decide_eq_false v3
                by_cases v4 : 1048576 < rr.f3
                · as_aux_lemma =>
                    have e := Aside0.mk (hbad (by unfold relC0; simp only [hrr, dc]; rw [if_neg c0, if_neg c1, if_neg id, if_neg v3, if_pos v4]))
                    have d5 := decide_eq_true v4
                    go_quiet (fail)
                    go_wp2_with fail
                    go_ret
                    exact ⟨by rw [e.out]; rfl, pw_below_drewN HB2.out _⟩
                have d5 := decide_eq_false v4
                by_cases v5 : rr.f2 < 0
                · as_aux_lemma =>
                    have e := Aside0.mk (hbad (by unfold relC0; simp only [hrr, dc]; rw [if_neg c0, if_neg c1, if_neg id, if_neg v3, if_neg v4, decide_eq_true v5]))
                    have d6 := decide_eq_true v5
                    go_quiet (fail)
                    go_wp2_with fail
                    go_ret
                    exact ⟨by rw [e.out]; rfl, pw_below_drewN HB2.out _⟩
                have d6 := decide_eq_false v5
                have e0 := Aside0.mk (show relC0 f j = false by unfold relC0; simp only [hrr, dc]; rw [if_neg c0, if_neg c1, if_neg id, if_neg v3, if_neg v4, d6])
                as_aux_lemma =>
                  go_quiet (fail)
                  rename_i nq
                  obtain ⟨W3, hW3⟩ : ∃ W3, W3 = W2.drewN nq := ⟨_, rfl⟩
                  have BP3 := Aside0.mk (by rw [hW3]; exact blk_drewN BP2.out _ : W3.heap[gp]? = some (.cells #[.slice (some ad) l0_0.length c0_0, .slice A0_1 l0_1.length c0_1, .int .i64 a0_2] 25 (0, 0)))
                  have BF3 := Aside0.mk (by rw [hW3]; exact blk_drewN BF2.out _ : W3.heap[gf]? = some (.cells #[.string f.f0, .bool f.f1, .bool f.f2, .slice A3 f.f3.length c3, .slice (some ad4) f.f4.length c4] 44 (0, 0)))
                  have BR3 := Aside0.mk (by rw [hW3]; exact blk_drewN BR2.out _ : W3.heap[gr]? = some (.cells #[.int .i64 rr.f0, .int .i64 rr.f1, .int .i64 rr.f2, .int .i64 rr.f3] 46 (0, 0)))
                  have HB3 := Aside0.mk (by rw [hW3]; exact pw_below_drewN HB2.out _ : Below w.heap.size w W3)
                  rw [← hW3]
                  clear hW3 BP2 BF2 BR2 HB2 hcp0 hcp1 hcf3 hcf4 hr0 hr1 hr2 hr3
                  obtain ⟨adc, eac, hcx⟩ := Kd.at_int HR3.out rr.f0 (by omega) (by omega)
                  subst eac
                  have hcx := (HB3.out.cell (World.block_lt_of_cell? w _ hcx)).trans hcx
                  have hcf3 : W3.cell? ⟨gf, 3, none⟩ = some (.slice (some adc) f.f3.length c3) := (blk_cell BF3.out 3).trans rfl
                  have hr0 : W3.cell? ⟨gr, 0, none⟩ = some (.int .i64 rr.f0) := (blk_cell BR3.out 0).trans rfl
                  have hx := hfx.out (rd f.f3 rr.f0) (rd_memI f.f3 rr.f0 (by omega) (by omega))
                  have hget : spliceref02_Get.f (rd f.f3 rr.f0) = some (Code.getB (Code.gW (rd f.f3 rr.f0))) := if_pos hx
                  have HC := H.out
                  unfold relC at HC
                  rw [e0.out] at HC
                  unfold relC1 at HC
                  simp only [hrr] at HC
                  rcases hgv : Code.getB (Code.gW (rd f.f3 rr.f0)) with ⟨g1, g2, g3, g4, g5, g6⟩
                  rw [hgv] at HC hget
                  simp only [Bool.not_false, Bool.true_and] at HC
                  have HC := Aside0.mk HC
                  have HG := Aside0.mk hget
                  clear hgv hget
                  generalize hxx : rd f.f3 rr.f0 = x at *
                  clear hxx
                  have p1 : (0 ≤ rr.f0) = True := eq_true (by omega)
                  have p2 : (rr.f0 < (f.f3.length : Int)) = True := eq_true (by omega)
                  go_wp2_with (first | ((with_reducible refine gate_callee (f := 17) rfl ?_); refine goesL_ (some 88) rfl rfl Try.func17 (by kernel_rfl) rfl #[.int .u32 x] rfl (by (try simp only [List.map_toArray, List.map_cons, List.map_nil]); first | done | rfl) ?_; (with_reducible refine (HGET x g1 g2 g3 g4 g5 g6 _ HG.out).mono ?_); rintro e w1 ⟨rfl, hb⟩; refine ⟨_, rfl, ?_⟩) | ((with_reducible refine gate_dst (N := 91) rfl ?_); refine halt_rt (fun P_ hP_ => ?_)))

                  have hP := hP_.out
                  clear hP_
                  obtain ⟨W4, hW4⟩ : ∃ W4, W4 = w1.alloc (.cells #[.int .i64 g1, .int .i64 g2, .int .i64 g3, .int .i64 g4, .int .i64 g5] 49) := ⟨_, rfl⟩
                  obtain ⟨gx, hgx⟩ : ∃ gx, gx = w1.heap.size := ⟨_, rfl⟩
                  have BP4 := Aside0.mk (by rw [hW4]; exact blk_alloc (blk_below (g := gp) BP3.out hb) _ : W4.heap[gp]? = some (.cells #[.slice (some ad) l0_0.length c0_0, .slice A0_1 l0_1.length c0_1, .int .i64 a0_2] 25 (0, 0)))
                  have BF4 := Aside0.mk (by rw [hW4]; exact blk_alloc (blk_below (g := gf) BF3.out hb) _ : W4.heap[gf]? = some (.cells #[.string f.f0, .bool f.f1, .bool f.f2, .slice (some adc) f.f3.length c3, .slice (some ad4) f.f4.length c4] 44 (0, 0)))
                  have BR4 := Aside0.mk (by rw [hW4]; exact blk_alloc (blk_below (g := gr) BR3.out hb) _ : W4.heap[gr]? = some (.cells #[.int .i64 rr.f0, .int .i64 rr.f1, .int .i64 rr.f2, .int .i64 rr.f3] 46 (0, 0)))
                  have BX4 := Aside0.mk (by rw [hW4, hgx]; exact blk_new w1 _ : W4.heap[gx]? = some (.cells #[.int .i64 g1, .int .i64 g2, .int .i64 g3, .int .i64 g4, .int .i64 g5] 49 (0, 0)))
                  have HB4 := Aside0.mk (by rw [hW4]; exact below_alloc (below_step HB3.out hb) _ : Below w.heap.size w W4)
                  rw [← hW4, ← hgx] at hP
                  clear hW4 hgx hb BP3 BF3 BR3 HB3 hcx hcf3 hr0
                  have hcp0 : W4.cell? ⟨gp, 0, none⟩ = some (.slice (some ad) l0_0.length c0_0) := (blk_cell BP4.out 0).trans rfl
                  have hcp1 : W4.cell? ⟨gp, 1, none⟩ = some (.slice A0_1 l0_1.length c0_1) := (blk_cell BP4.out 1).trans rfl
                  have hr1 : W4.cell? ⟨gr, 1, none⟩ = some (.int .i64 rr.f1) := (blk_cell BR4.out 1).trans rfl
                  have hr2 : W4.cell? ⟨gr, 2, none⟩ = some (.int .i64 rr.f2) := (blk_cell BR4.out 2).trans rfl
                  have hx0 : W4.cell? ⟨gx, 0, none⟩ = some (.int .i64 g1) := (blk_cell BX4.out 0).trans rfl
                  rcases Bool.eq_false_or_eq_true ((rr.f1 == 1)) with hK1 | hK1
                  · skip
                    have t1 : rr.f1 = 1 := beq_iff_eq.mp hK1
                    have hK2 : (rr.f1 == 2) = false := beq_eq_false_iff_ne.mpr (by omega)
                    have hK3 : (rr.f1 == 3) = false := beq_eq_false_iff_ne.mpr (by omega)
                    clear t1
                    rcases Bool.eq_false_or_eq_true ((g1 == 19)) with h19 | h19
                    · skip
                      rcases Bool.eq_false_or_eq_true (decide (rr.f2 < (l0_0.length : Int))) with hltn | hltn
                      · skip
                        refine Eq.mpr hP ?_
                        clear hP P_
                        go_wp2_with (first | ((with_reducible refine gate_dst (N := 112) rfl ?_); refine halt_rt (fun P_ hP_ => ?_)))
                        have hP := hP_.out
                        clear hP_
                        as_aux_lemma =>
                          refine Eq.mpr hP ?_
                          clear hP P_
                          go_wp2_with (first | ((with_reducible refine gate_dst (N := 139) rfl ?_); refine halt_rt (fun P_ hP_ => ?_)))
                          have hP := hP_.out
                          clear hP_
                          rcases Bool.eq_false_or_eq_true (g6) with hok | hok
                          · skip
                            subst hok
                            refine Eq.mpr hP ?_
                            clear hP P_
                            go_wp2_with fail
                            go_roundg k2
                            case measure => omega
                            case rel => exact ⟨j + 1, by go_num, by omega, ⟨by have := hk2.out; omega⟩, ⟨by have h := HC.out; simp only [hK1, hK2, hK3, h19, hltn, Bool.true_and, Bool.and_true, Bool.false_and, Bool.and_false, Bool.or_true, Bool.true_or, Bool.or_false, Bool.false_or] at h; exact h⟩, HB4, BP4, BF4⟩
                          · skip
                            subst hok
                            refine Eq.mpr hP ?_
                            clear hP P_
                            go_wp2_with fail
                            go_ret
                            exact ⟨by have h := HC.out; simp only [hK1, hK2, hK3, h19, hltn, Bool.true_and, Bool.and_true, Bool.false_and, Bool.and_false, Bool.or_true, Bool.true_or, Bool.or_false, Bool.false_or] at h; subst h; rfl, HB4.out⟩
                      · skip
                        refine Eq.mpr hP ?_
                        clear hP P_
                        go_wp2_with (first | ((with_reducible refine gate_dst (N := 112) rfl ?_); refine halt_rt (fun P_ hP_ => ?_)))
                        have hP := hP_.out
                        clear hP_
                        as_aux_lemma =>
                          refine Eq.mpr hP ?_
                          clear hP P_
                          go_wp2_with (first | ((with_reducible refine gate_dst (N := 139) rfl ?_); refine halt_rt (fun P_ hP_ => ?_)))
                          have hP := hP_.out
                          clear hP_
                          rcases Bool.eq_false_or_eq_true (g6) with hok | hok
                          · skip
                            subst hok
                            refine Eq.mpr hP ?_
                            clear hP P_
                            go_wp2_with fail
                            go_ret
                            exact ⟨by have h := HC.out; simp only [hK1, hK2, hK3, h19, hltn, Bool.true_and, Bool.and_true, Bool.false_and, Bool.and_false, Bool.or_true, Bool.true_or, Bool.or_false, Bool.false_or] at h; subst h; rfl, HB4.out⟩
                          · skip
                            subst hok
                            refine Eq.mpr hP ?_
                            clear hP P_
                            go_wp2_with fail
                            go_ret
                            exact ⟨by have h := HC.out; simp only [hK1, hK2, hK3, h19, hltn, Bool.true_and, Bool.and_true, Bool.false_and, Bool.and_false, Bool.or_true, Bool.true_or, Bool.or_false, Bool.false_or] at h; subst h; rfl, HB4.out⟩
                    · skip
                      rcases Bool.eq_false_or_eq_true ((g1 == 20)) with h20 | h20
                      · skip
                        rcases Bool.eq_false_or_eq_true (decide (rr.f2 < (l0_0.length : Int))) with hltn | hltn
                        · skip
                          refine Eq.mpr hP ?_
                          clear hP P_
                          go_wp2_with (first | ((with_reducible refine gate_dst (N := 112) rfl ?_); refine halt_rt (fun P_ hP_ => ?_)))
                          have hP := hP_.out
                          clear hP_
                          as_aux_lemma =>
                            refine Eq.mpr hP ?_
                            clear hP P_
                            go_wp2_with (first | ((with_reducible refine gate_dst (N := 139) rfl ?_); refine halt_rt (fun P_ hP_ => ?_)))
                            have hP := hP_.out
                            clear hP_
                            rcases Bool.eq_false_or_eq_true (g6) with hok | hok
                            · skip
                              subst hok
                              refine Eq.mpr hP ?_
                              clear hP P_
                              go_wp2_with fail
                              go_roundg k2
                              case measure => omega
                              case rel => exact ⟨j + 1, by go_num, by omega, ⟨by have := hk2.out; omega⟩, ⟨by have h := HC.out; simp only [hK1, hK2, hK3, h19, h20, hltn, Bool.true_and, Bool.and_true, Bool.false_and, Bool.and_false, Bool.or_true, Bool.true_or, Bool.or_false, Bool.false_or] at h; exact h⟩, HB4, BP4, BF4⟩
                            · skip
                              subst hok
                              refine Eq.mpr hP ?_
                              clear hP P_
                              go_wp2_with fail
                              go_ret
                              exact ⟨by have h := HC.out; simp only [hK1, hK2, hK3, h19, h20, hltn, Bool.true_and, Bool.and_true, Bool.false_and, Bool.and_false, Bool.or_true, Bool.true_or, Bool.or_false, Bool.false_or] at h; subst h; rfl, HB4.out⟩
                        · skip
                          refine Eq.mpr hP ?_
                          clear hP P_
                          go_wp2_with (first | ((with_reducible refine gate_dst (N := 112) rfl ?_); refine halt_rt (fun P_ hP_ => ?_)))
                          have hP := hP_.out
                          clear hP_
                          as_aux_lemma =>
                            refine Eq.mpr hP ?_
                            clear hP P_
                            go_wp2_with (first | ((with_reducible refine gate_dst (N := 139) rfl ?_); refine halt_rt (fun P_ hP_ => ?_)))
                            have hP := hP_.out
                            clear hP_
                            rcases Bool.eq_false_or_eq_true (g6) with hok | hok
                            · skip
                              subst hok
                              refine Eq.mpr hP ?_
                              clear hP P_
                              go_wp2_with fail
                              go_ret
                              exact ⟨by have h := HC.out; simp only [hK1, hK2, hK3, h19, h20, hltn, Bool.true_and, Bool.and_true, Bool.false_and, Bool.and_false, Bool.or_true, Bool.true_or, Bool.or_false, Bool.false_or] at h; subst h; rfl, HB4.out⟩
                            · skip
                              subst hok
                              refine Eq.mpr hP ?_
                              clear hP P_
                              go_wp2_with fail
                              go_ret
                              exact ⟨by have h := HC.out; simp only [hK1, hK2, hK3, h19, h20, hltn, Bool.true_and, Bool.and_true, Bool.false_and, Bool.and_false, Bool.or_true, Bool.true_or, Bool.or_false, Bool.false_or] at h; subst h; rfl, HB4.out⟩
                      · skip
                        refine Eq.mpr hP ?_
                        clear hP P_
                        go_wp2_with (first | ((with_reducible refine gate_dst (N := 112) rfl ?_); refine halt_rt (fun P_ hP_ => ?_)))
                        have hP := hP_.out
                        clear hP_
                        as_aux_lemma =>
                          refine Eq.mpr hP ?_
                          clear hP P_
                          go_wp2_with (first | ((with_reducible refine gate_dst (N := 139) rfl ?_); refine halt_rt (fun P_ hP_ => ?_)))
                          have hP := hP_.out
                          clear hP_
                          rcases Bool.eq_false_or_eq_true (g6) with hok | hok
                          · skip
                            subst hok
                            refine Eq.mpr hP ?_
                            clear hP P_
                            go_wp2_with fail
                            go_ret
                            exact ⟨by have h := HC.out; simp only [hK1, hK2, hK3, h19, h20, Bool.true_and, Bool.and_true, Bool.false_and, Bool.and_false, Bool.or_true, Bool.true_or, Bool.or_false, Bool.false_or] at h; subst h; rfl, HB4.out⟩
                          · skip
                            subst hok
                            refine Eq.mpr hP ?_
                            clear hP P_
                            go_wp2_with fail
                            go_ret
                            exact ⟨by have h := HC.out; simp only [hK1, hK2, hK3, h19, h20, Bool.true_and, Bool.and_true, Bool.false_and, Bool.and_false, Bool.or_true, Bool.true_or, Bool.or_false, Bool.false_or] at h; subst h; rfl, HB4.out⟩
                  · skip
                    refine Eq.mpr hP ?_
                    clear hP P_
                    go_wp2_with (first | ((with_reducible refine gate_dst (N := 112) rfl ?_); refine halt_rt (fun P_ hP_ => ?_)))
                    have hP := hP_.out
                    clear hP_
                    rcases Bool.eq_false_or_eq_true ((rr.f1 == 2)) with hK2 | hK2
                    · skip
                      have t1 : rr.f1 = 2 := beq_iff_eq.mp hK2
                      have hK1 : (rr.f1 == 1) = false := beq_eq_false_iff_ne.mpr (by omega)
                      have hK3 : (rr.f1 == 3) = false := beq_eq_false_iff_ne.mpr (by omega)
                      clear t1
                      rcases Bool.eq_false_or_eq_true ((g1 == 9)) with h9 | h9
                      · skip
                        rcases Bool.eq_false_or_eq_true (decide (rr.f2 < (l0_1.length : Int))) with hltm | hltm
                        · skip
                          as_aux_lemma =>
                            refine Eq.mpr hP ?_
                            clear hP P_
                            go_wp2_with (first | ((with_reducible refine gate_dst (N := 139) rfl ?_); refine halt_rt (fun P_ hP_ => ?_)))
                            have hP := hP_.out
                            clear hP_
                            rcases Bool.eq_false_or_eq_true (g6) with hok | hok
                            · skip
                              subst hok
                              refine Eq.mpr hP ?_
                              clear hP P_
                              go_wp2_with fail
                              go_roundg k2
                              case measure => omega
                              case rel => exact ⟨j + 1, by go_num, by omega, ⟨by have := hk2.out; omega⟩, ⟨by have h := HC.out; simp only [hK1, hK2, hK3, h9, hltm, Bool.true_and, Bool.and_true, Bool.false_and, Bool.and_false, Bool.or_true, Bool.true_or, Bool.or_false, Bool.false_or] at h; exact h⟩, HB4, BP4, BF4⟩
                            · skip
                              subst hok
                              refine Eq.mpr hP ?_
                              clear hP P_
                              go_wp2_with fail
                              go_ret
                              exact ⟨by have h := HC.out; simp only [hK1, hK2, hK3, h9, hltm, Bool.true_and, Bool.and_true, Bool.false_and, Bool.and_false, Bool.or_true, Bool.true_or, Bool.or_false, Bool.false_or] at h; subst h; rfl, HB4.out⟩
                        · skip
                          as_aux_lemma =>
                            refine Eq.mpr hP ?_
                            clear hP P_
                            go_wp2_with (first | ((with_reducible refine gate_dst (N := 139) rfl ?_); refine halt_rt (fun P_ hP_ => ?_)))
                            have hP := hP_.out
                            clear hP_
                            rcases Bool.eq_false_or_eq_true (g6) with hok | hok
                            · skip
                              subst hok
                              refine Eq.mpr hP ?_
                              clear hP P_
                              go_wp2_with fail
                              go_ret
                              exact ⟨by have h := HC.out; simp only [hK1, hK2, hK3, h9, hltm, Bool.true_and, Bool.and_true, Bool.false_and, Bool.and_false, Bool.or_true, Bool.true_or, Bool.or_false, Bool.false_or] at h; subst h; rfl, HB4.out⟩
                            · skip
                              subst hok
                              refine Eq.mpr hP ?_
                              clear hP P_
                              go_wp2_with fail
                              go_ret
                              exact ⟨by have h := HC.out; simp only [hK1, hK2, hK3, h9, hltm, Bool.true_and, Bool.and_true, Bool.false_and, Bool.and_false, Bool.or_true, Bool.true_or, Bool.or_false, Bool.false_or] at h; subst h; rfl, HB4.out⟩
                      · skip
                        as_aux_lemma =>
                          refine Eq.mpr hP ?_
                          clear hP P_
                          go_wp2_with (first | ((with_reducible refine gate_dst (N := 139) rfl ?_); refine halt_rt (fun P_ hP_ => ?_)))
                          have hP := hP_.out
                          clear hP_
                          rcases Bool.eq_false_or_eq_true (g6) with hok | hok
                          · skip
                            subst hok
                            refine Eq.mpr hP ?_
                            clear hP P_
                            go_wp2_with fail
                            go_ret
                            exact ⟨by have h := HC.out; simp only [hK1, hK2, hK3, h9, Bool.true_and, Bool.and_true, Bool.false_and, Bool.and_false, Bool.or_true, Bool.true_or, Bool.or_false, Bool.false_or] at h; subst h; rfl, HB4.out⟩
                          · skip
                            subst hok
                            refine Eq.mpr hP ?_
                            clear hP P_
                            go_wp2_with fail
                            go_ret
                            exact ⟨by have h := HC.out; simp only [hK1, hK2, hK3, h9, Bool.true_and, Bool.and_true, Bool.false_and, Bool.and_false, Bool.or_true, Bool.true_or, Bool.or_false, Bool.false_or] at h; subst h; rfl, HB4.out⟩
                    · skip
                      rcases Bool.eq_false_or_eq_true ((rr.f1 == 3)) with hK3 | hK3
                      · skip
                        have t1 : rr.f1 = 3 := beq_iff_eq.mp hK3
                        have hK1 : (rr.f1 == 1) = false := beq_eq_false_iff_ne.mpr (by omega)
                        have hK2 : (rr.f1 == 2) = false := beq_eq_false_iff_ne.mpr (by omega)
                        clear t1
                        rcases Bool.eq_false_or_eq_true ((g1 == 10)) with h10 | h10
                        · skip
                          rcases Bool.eq_false_or_eq_true (decide (rr.f2 < (l0_1.length : Int))) with hltm | hltm
                          · skip
                            as_aux_lemma =>
                              refine Eq.mpr hP ?_
                              clear hP P_
                              go_wp2_with (first | ((with_reducible refine gate_dst (N := 139) rfl ?_); refine halt_rt (fun P_ hP_ => ?_)))
                              have hP := hP_.out
                              clear hP_
                              rcases Bool.eq_false_or_eq_true (g6) with hok | hok
                              · skip
                                subst hok
                                refine Eq.mpr hP ?_
                                clear hP P_
                                go_wp2_with fail
                                go_roundg k2
                                case measure => omega
                                case rel => exact ⟨j + 1, by go_num, by omega, ⟨by have := hk2.out; omega⟩, ⟨by have h := HC.out; simp only [hK1, hK2, hK3, h10, hltm, Bool.true_and, Bool.and_true, Bool.false_and, Bool.and_false, Bool.or_true, Bool.true_or, Bool.or_false, Bool.false_or] at h; exact h⟩, HB4, BP4, BF4⟩
                              · skip
                                subst hok
                                refine Eq.mpr hP ?_
                                clear hP P_
                                go_wp2_with fail
                                go_ret
                                exact ⟨by have h := HC.out; simp only [hK1, hK2, hK3, h10, hltm, Bool.true_and, Bool.and_true, Bool.false_and, Bool.and_false, Bool.or_true, Bool.true_or, Bool.or_false, Bool.false_or] at h; subst h; rfl, HB4.out⟩
                          · skip
                            as_aux_lemma =>
                              refine Eq.mpr hP ?_
                              clear hP P_
                              go_wp2_with (first | ((with_reducible refine gate_dst (N := 139) rfl ?_); refine halt_rt (fun P_ hP_ => ?_)))
                              have hP := hP_.out
                              clear hP_
                              rcases Bool.eq_false_or_eq_true (g6) with hok | hok
                              · skip
                                subst hok
                                refine Eq.mpr hP ?_
                                clear hP P_
                                go_wp2_with fail
                                go_ret
                                exact ⟨by have h := HC.out; simp only [hK1, hK2, hK3, h10, hltm, Bool.true_and, Bool.and_true, Bool.false_and, Bool.and_false, Bool.or_true, Bool.true_or, Bool.or_false, Bool.false_or] at h; subst h; rfl, HB4.out⟩
                              · skip
                                subst hok
                                refine Eq.mpr hP ?_
                                clear hP P_
                                go_wp2_with fail
                                go_ret
                                exact ⟨by have h := HC.out; simp only [hK1, hK2, hK3, h10, hltm, Bool.true_and, Bool.and_true, Bool.false_and, Bool.and_false, Bool.or_true, Bool.true_or, Bool.or_false, Bool.false_or] at h; subst h; rfl, HB4.out⟩
                        · skip
                          as_aux_lemma =>
                            refine Eq.mpr hP ?_
                            clear hP P_
                            go_wp2_with (first | ((with_reducible refine gate_dst (N := 139) rfl ?_); refine halt_rt (fun P_ hP_ => ?_)))
                            have hP := hP_.out
                            clear hP_
                            rcases Bool.eq_false_or_eq_true (g6) with hok | hok
                            · skip
                              subst hok
                              refine Eq.mpr hP ?_
                              clear hP P_
                              go_wp2_with fail
                              go_ret
                              exact ⟨by have h := HC.out; simp only [hK1, hK2, hK3, h10, Bool.true_and, Bool.and_true, Bool.false_and, Bool.and_false, Bool.or_true, Bool.true_or, Bool.or_false, Bool.false_or] at h; subst h; rfl, HB4.out⟩
                            · skip
                              subst hok
                              refine Eq.mpr hP ?_
                              clear hP P_
                              go_wp2_with fail
                              go_ret
                              exact ⟨by have h := HC.out; simp only [hK1, hK2, hK3, h10, Bool.true_and, Bool.and_true, Bool.false_and, Bool.and_false, Bool.or_true, Bool.true_or, Bool.or_false, Bool.false_or] at h; subst h; rfl, HB4.out⟩
                      · skip
                        as_aux_lemma =>
                          refine Eq.mpr hP ?_
                          clear hP P_
                          go_wp2_with (first | ((with_reducible refine gate_dst (N := 139) rfl ?_); refine halt_rt (fun P_ hP_ => ?_)))
                          have hP := hP_.out
                          clear hP_
                          rcases Bool.eq_false_or_eq_true (g6) with hok | hok
                          · skip
                            subst hok
                            refine Eq.mpr hP ?_
                            clear hP P_
                            go_wp2_with fail
                            go_ret
                            exact ⟨by have h := HC.out; simp only [hK1, hK2, hK3, Bool.true_and, Bool.and_true, Bool.false_and, Bool.and_false, Bool.or_true, Bool.true_or, Bool.or_false, Bool.false_or] at h; subst h; rfl, HB4.out⟩
                          · skip
                            subst hok
                            refine Eq.mpr hP ?_
                            clear hP P_
                            go_wp2_with fail
                            go_ret
                            exact ⟨by have h := HC.out; simp only [hK1, hK2, hK3, Bool.true_and, Bool.and_true, Bool.false_and, Bool.and_false, Bool.or_true, Bool.true_or, Bool.or_false, Bool.false_or] at h; subst h; rfl, HB4.out⟩
            · have hge : f.f4.length ≤ j := by omega
              have h := H.out
              rw [allFrom_end _ _ _ hge, Bool.true_and] at h
              rw [← HTail.out] at h
              have H' := Aside0.mk h
              go_wp2_with fail
              go_roundg k1
              case measure => omega
              case rel => exact ⟨i + 1, by go_num, by omega, ⟨by have := hk.out; omega⟩, H', HB, BP⟩
      · have hge : l0_0.length ≤ i := by omega
        have h := H.out
        rw [allFrom_end _ _ _ hge, Bool.true_and] at h
        rw [← HRest.out] at h
        have H' := Aside0.mk h
        clear H
        have hcp1 : wr.cell? ⟨gp, 1, none⟩ = some (.slice A0_1 l0_1.length c0_1) := (blk_cell BP.out 1).trans rfl
        go_wp2_with fail
        generalize hfun : (fun i : Nat => relsD (l0_1.length) (rd_T55 l0_1 i)) = pD at *
        go_loopg [11] (l0_1.length + 1) (fun kq v11 w' => ∃ i : Nat, v11 = .int .i64 i ∧ i ≤ l0_1.length ∧ Aside0 (i + kq = l0_1.length + 1) ∧ Aside0 (allFrom pD l0_1.length i = r) ∧ Aside0 (Below w.heap.size w w') ∧ Aside0 (w'.heap[gp]? = some (.cells #[.slice A0_0 l0_0.length c0_0, .slice A0_1 l0_1.length c0_1, .int .i64 a0_2] 25 (0, 0))))
        case atStart => exact ⟨0, rfl, Nat.zero_le _, ⟨by omega⟩, H', HB, BP⟩
        case round =>
          clear H' HB BP hcp1
          obtain ⟨i, rfl, hi, hk, H, HB, BP⟩ := hrel
          have hcp1 : wr.cell? ⟨gp, 1, none⟩ = some (.slice A0_1 l0_1.length c0_1) := (blk_cell BP.out 1).trans rfl
          cases gk with
          | zero =>
            exfalso
            have := hk.out
            omega
          | succ k1 =>
            by_cases hlt : i < l0_1.length
            · obtain ⟨ad, A3, c3, A4, c4, ea, h0, h1, h2, h3, h4, hl3, hi3, hl4, hi4⟩ := at_T55 HR1.out (i : Int) (by omega) (by omega)
              subst ea
              replace h0 := (HB.out.cell (World.block_lt_of_cell? w _ h0)).trans h0
              replace h1 := (HB.out.cell (World.block_lt_of_cell? w _ h1)).trans h1
              replace h2 := (HB.out.cell (World.block_lt_of_cell? w _ h2)).trans h2
              replace h3 := (HB.out.cell (World.block_lt_of_cell? w _ h3)).trans h3
              replace h4 := (HB.out.cell (World.block_lt_of_cell? w _ h4)).trans h4
              simp only [Int.toNat_natCast] at h0 h1 h2 h3 h4
              have hfm : rd_T55 l0_1 (i : Int) ∈ l0_1 := by
                have e : rd_T55 l0_1 i = l0_1[i] := by unfold rd_T55; simp [List.getD_eq_getElem?_getD, hlt]
                rw [e]
                exact List.getElem_mem hlt
              have hf4 := HD.out _ hfm
              have H := H.out
              rw [allFrom_step _ _ _ hlt] at H
              have eF : pD i = allFrom (fun j => !relD0 l0_1.length (rd_T55 l0_1 i) j) (rd_T55 l0_1 i).f4.length 0 := by rw [← hfun]; exact (allFrom_all _ _).symm
              rw [eF] at H
              clear eF
              have H := Aside0.mk H
              clear hfm
              generalize rd_T55 l0_1 (i : Int) = d at *
              go_wp2_with fail
              obtain ⟨W1, hW1⟩ : ∃ W1, W1 = wr.alloc (.cells #[.int .i64 d.f0, .bool d.f1, .int .i64 d.f2, .slice A3 d.f3.length c3, .slice A4 d.f4.length c4] 55) := ⟨_, rfl⟩
              obtain ⟨gd, hgd⟩ : ∃ gd, gd = wr.heap.size := ⟨_, rfl⟩
              have BD1 : Aside0 (W1.heap[gd]? = some (.cells #[.int .i64 d.f0, .bool d.f1, .int .i64 d.f2, .slice A3 d.f3.length c3, .slice A4 d.f4.length c4] 55 (0, 0))) := ⟨by rw [hW1, hgd]; exact blk_new _ _⟩
              have BP1 := Aside0.mk (by rw [hW1]; exact blk_alloc BP.out _ : W1.heap[gp]? = some (.cells #[.slice A0_0 l0_0.length c0_0, .slice (some ad) l0_1.length c0_1, .int .i64 a0_2] 25 (0, 0)))
              have HB1 := Aside0.mk (by rw [hW1]; exact below_alloc HB.out _ : Below w.heap.size w W1)
              rw [← hW1, ← hgd]
              clear hW1 hgd BP HB h0 h1 h2 h3 h4 hcp1
              have HR4 := Aside0.mk hi4
              clear hi3 hi4
              generalize htail : allFrom pD l0_1.length (i + 1) = tail at *
              have HTail := Aside0.mk htail
              clear htail
              go_loopg [13] (d.f4.length + 1) (fun kq v13 w' => ∃ j : Nat, v13 = .int .i64 j ∧ j ≤ d.f4.length ∧ Aside0 (j + kq = d.f4.length + 1) ∧ Aside0 ((allFrom (fun j => !relD0 l0_1.length d j) d.f4.length j && tail) = r) ∧ Aside0 (Below w.heap.size w w') ∧ Aside0 (w'.heap[gp]? = some (.cells #[.slice A0_0 l0_0.length c0_0, .slice (some ad) l0_1.length c0_1, .int .i64 a0_2] 25 (0, 0))) ∧ Aside0 (w'.heap[gd]? = some (.cells #[.int .i64 d.f0, .bool d.f1, .int .i64 d.f2, .slice A3 d.f3.length c3, .slice A4 d.f4.length c4] 55 (0, 0))))
              case atStart => exact ⟨0, rfl, Nat.zero_le _, ⟨by omega⟩, H, HB1, BP1, BD1⟩
              case round =>
                clear H HB1 BP1 BD1
                obtain ⟨j, rfl, hj, hk2, H, HB, BP, BD⟩ := hrel
                cases gk with
                | zero =>
                  exfalso
                  have := hk2.out
                  omega
                | succ k2 =>
                  have hcd4 : wr.cell? ⟨gd, 4, none⟩ = some (.slice A4 d.f4.length c4) := (blk_cell BD.out 4).trans rfl
                  by_cases hjt : j < d.f4.length
                  · obtain ⟨ad4, ea4, h0, h1, h2, h3⟩ := at_T46 HR4.out (j : Int) (by omega) (by omega)
                    subst ea4
                    have q0 := (HB.out.cell (World.block_lt_of_cell? w _ h0)).trans h0
                    have q1 := (HB.out.cell (World.block_lt_of_cell? w _ h1)).trans h1
                    have q2 := (HB.out.cell (World.block_lt_of_cell? w _ h2)).trans h2
                    have q3 := (HB.out.cell (World.block_lt_of_cell? w _ h3)).trans h3
                    clear h0 h1 h2 h3
                    simp only [Int.toNat_natCast] at q0 q1 q2 q3
                    have H := H.out
                    rw [allFrom_step _ _ _ hjt] at H
                    have H := Aside0.mk H
                    generalize hrr : rd_T46 d.f4 (j : Int) = rr at *
                    go_wp2_with fail
                    have hbad : relD0 l0_1.length d j = true → r = false := fun e => by rw [← H.out]; simp [e]
                    obtain ⟨W2, hW2⟩ : ∃ W2, W2 = wr.alloc (.cells #[.int .i64 rr.f0, .int .i64 rr.f1, .int .i64 rr.f2, .int .i64 rr.f3] 46) := ⟨_, rfl⟩
                    obtain ⟨gr, hgr⟩ : ∃ gr, gr = wr.heap.size := ⟨_, rfl⟩
                    have BR2 : Aside0 (W2.heap[gr]? = some (.cells #[.int .i64 rr.f0, .int .i64 rr.f1, .int .i64 rr.f2, .int .i64 rr.f3] 46 (0, 0))) := ⟨by rw [hW2, hgr]; exact blk_new _ _⟩
                    have BP2 := Aside0.mk (by rw [hW2]; exact blk_alloc BP.out _ : W2.heap[gp]? = some (.cells #[.slice A0_0 l0_0.length c0_0, .slice (some ad) l0_1.length c0_1, .int .i64 a0_2] 25 (0, 0)))
                    have BD2 := Aside0.mk (by rw [hW2]; exact blk_alloc BD.out _ : W2.heap[gd]? = some (.cells #[.int .i64 d.f0, .bool d.f1, .int .i64 d.f2, .slice A3 d.f3.length c3, .slice (some ad4) d.f4.length c4] 55 (0, 0)))
                    have HB2 := Aside0.mk (by rw [hW2]; exact below_alloc HB.out _ : Below w.heap.size w W2)
                    rw [← hW2, ← hgr]
                    clear hW2 hgr BP BD HB q0 q1 q2 q3 hcd4
                    have hcp1 : W2.cell? ⟨gp, 1, none⟩ = some (.slice (some ad) l0_1.length c0_1) := (blk_cell BP2.out 1).trans rfl
                    have hcd2 : W2.cell? ⟨gd, 2, none⟩ = some (.int .i64 d.f2) := (blk_cell BD2.out 2).trans rfl
                    have hcd4 : W2.cell? ⟨gd, 4, none⟩ = some (.slice (some ad4) d.f4.length c4) := (blk_cell BD2.out 4).trans rfl
                    have hr0 : W2.cell? ⟨gr, 0, none⟩ = some (.int .i64 rr.f0) := (blk_cell BR2.out 0).trans rfl
                    have hr1 : W2.cell? ⟨gr, 1, none⟩ = some (.int .i64 rr.f1) := (blk_cell BR2.out 1).trans rfl
                    have hr2 : W2.cell? ⟨gr, 2, none⟩ = some (.int .i64 rr.f2) := (blk_cell BR2.out 2).trans rfl
                    have hr3 : W2.cell? ⟨gr, 3, none⟩ = some (.int .i64 rr.f3) := (blk_cell BR2.out 3).trans rfl
                    by_cases v0 : rr.f1 ≠ 4
                    · as_aux_lemma =>
                        have e := Aside0.mk (hbad (by unfold relD0; simp only [hrr]; rw [if_pos v0]))
                        have d0 : (rr.f1 != 4) = true := bne_iff_ne.mpr v0
                        go_quiet (fail)
                        go_wp2_with fail
                        go_ret
                        exact ⟨by rw [e.out]; rfl, pw_below_drewN HB2.out _⟩
                    have v0e : rr.f1 = 4 := Decidable.not_not.1 v0
                    have d0 : (rr.f1 != 4) = false := bne_eq_false_iff_eq.mpr v0e
                    clear v0e
                    by_cases v1 : rr.f0 < 0
                    · as_aux_lemma =>
                        have e := Aside0.mk (hbad (by unfold relD0; simp only [hrr]; rw [if_neg v0, if_pos v1]))
                        have d1 := decide_eq_true v1
                        go_quiet (fail)
                        go_wp2_with fail
                        go_ret
                        exact ⟨by rw [e.out]; rfl, pw_below_drewN HB2.out _⟩
                    have d1 := decide_eq_false v1
                    by_cases v2 : wrap64 (d.f2 - 4) < rr.f0
                    · as_aux_lemma =>
                        have e := Aside0.mk (hbad (by unfold relD0; simp only [hrr]; rw [if_neg v0, if_neg v1, if_pos v2]))
                        have d2 : decide (IntKind.i64.wrap (d.f2 - 4) < rr.f0) = true := decide_eq_true (by rw [i64_w]; exact v2)
                        go_quiet (fail)
                        go_wp2_with fail
                        go_ret
                        exact ⟨by rw [e.out]; rfl, pw_below_drewN HB2.out _⟩
                    have d2 : decide (IntKind.i64.wrap (d.f2 - 4) < rr.f0) = false := decide_eq_false (by rw [i64_w]; exact v2)
                    by_cases v3 : 0 < j ∧ wrap64 (rr.f0 - (rd_T46 d.f4 ((j : Int) - 1)).f0) < 4
                    · as_aux_lemma =>
                        have e := Aside0.mk (hbad (by unfold relD0; simp only [hrr]; rw [if_neg v0, if_neg v1, if_neg v2, if_pos v3]))
                        have w1 : IntKind.i64.wrap ((j : Int) - 1) = (j : Int) - 1 := (i64_w _).trans (by unfold wrap64; omega)
                        rw [← w1] at v3
                        obtain ⟨adp, eap, p0, p1, p2, p3⟩ := at_T46 HR4.out (IntKind.i64.wrap ((j : Int) - 1)) (by omega) (by omega)
                        cases eap
                        have p0 := (HB2.out.cell (World.block_lt_of_cell? w _ p0)).trans p0
                        have d3 : decide (0 < (j : Int)) = true := decide_eq_true (by omega)
                        have d3' : decide (0 < j) = true := decide_eq_true v3.1
                        have d4 : decide (IntKind.i64.wrap (rr.f0 - (rd_T46 d.f4 (IntKind.i64.wrap ((j : Int) - 1))).f0) < 4) = true := decide_eq_true (by rw [i64_w]; exact v3.2)
                        have i1 : (0 ≤ IntKind.i64.wrap ((j : Int) - 1)) = True := eq_true (by omega)
                        have i2 : (IntKind.i64.wrap ((j : Int) - 1) < (d.f4.length : Int)) = True := eq_true (by omega)
                        clear w1
                        go_quiet (fail)
                        go_wp2_with fail
                        go_ret
                        exact ⟨by rw [e.out]; rfl, pw_below_drewN HB2.out _⟩
                    have d3c : j = 0 ∨ (0 < j ∧ ¬ wrap64 (rr.f0 - (rd_T46 d.f4 (IntKind.i64.wrap ((j : Int) - 1))).f0) < 4 ∧ IntKind.i64.wrap ((j : Int) - 1) = (j : Int) - 1) := by
                      by_cases hz : j = 0
                      · exact .inl hz
                      · have w1 : IntKind.i64.wrap ((j : Int) - 1) = (j : Int) - 1 := (i64_w _).trans (by unfold wrap64; omega)
                        refine .inr ⟨by omega, ?_, w1⟩
                        rw [w1]
                        exact fun hh => v3 ⟨by omega, hh⟩
                    have dc : (0 < j ∧ wrap64 (rr.f0 - (rd_T46 d.f4 ((j : Int) - 1)).f0) < 4) = False := eq_false v3
                    clear v3
                    rcases d3c with hz | ⟨hp, hlt2, w1⟩
                    case inr =>
                      have d3 : decide (0 < (j : Int)) = true := decide_eq_true (by omega)
                      have d3' : decide (0 < j) = true := decide_eq_true hp
                      have d4 : decide (IntKind.i64.wrap (rr.f0 - (rd_T46 d.f4 (IntKind.i64.wrap ((j : Int) - 1))).f0) < 4) = false := decide_eq_false (by rw [i64_w]; exact hlt2)
                      obtain ⟨adp, eap, p0, p1, p2, p3⟩ := at_T46 HR4.out (IntKind.i64.wrap ((j : Int) - 1)) (by omega) (by omega)
                      cases eap
                      have p0 := (HB2.out.cell (World.block_lt_of_cell? w _ p0)).trans p0
                      have i1 : (0 ≤ IntKind.i64.wrap ((j : Int) - 1)) = True := eq_true (by omega)
                      have i2 : (IntKind.i64.wrap ((j : Int) - 1) < (d.f4.length : Int)) = True := eq_true (by omega)
                      clear w1
                      by_cases v4 : rr.f2 < 0
                      · as_aux_lemma =>
                          have e := Aside0.mk (hbad (by unfold relD0; simp only [hrr, dc]; rw [if_neg v0, if_neg v1, if_neg v2, if_neg id, if_pos v4]))
                          have d5 := decide_eq_true v4
                          go_quiet (fail)
                          go_wp2_with fail
                          go_ret
                          exact ⟨by rw [e.out]; rfl, pw_below_drewN HB2.out _⟩
                      have d5 := decide_eq_false v4
                      by_cases v5 : (l0_1.length : Int) ≤ rr.f2
                      · as_aux_lemma =>
                          have e := Aside0.mk (hbad (by unfold relD0; simp only [hrr, dc]; rw [if_neg v0, if_neg v1, if_neg v2, if_neg id, if_neg v4, if_pos v5]))
                          have d6 := decide_eq_true v5
                          go_quiet (fail)
                          go_wp2_with fail
                          go_ret
                          exact ⟨by rw [e.out]; rfl, pw_below_drewN HB2.out _⟩
                      have d6 := decide_eq_false v5
                      by_cases v6 : rr.f3 < -1048576
                      · as_aux_lemma =>
                          have e := Aside0.mk (hbad (by unfold relD0; simp only [hrr, dc]; rw [if_neg v0, if_neg v1, if_neg v2, if_neg id, if_neg v4, if_neg v5, if_pos v6]))
                          have d7 := decide_eq_true v6
                          go_quiet (fail)
                          go_wp2_with fail
                          go_ret
                          exact ⟨by rw [e.out]; rfl, pw_below_drewN HB2.out _⟩
                      have d7 := decide_eq_false v6
                      by_cases v7 : 1048576 < rr.f3
                      · as_aux_lemma =>
                          have e := Aside0.mk (hbad (by unfold relD0; simp only [hrr, dc]; rw [if_neg v0, if_neg v1, if_neg v2, if_neg id, if_neg v4, if_neg v5, if_neg v6, decide_eq_true v7]))
                          have d8 := decide_eq_true v7
                          go_quiet (fail)
                          go_wp2_with fail
                          go_ret
                          exact ⟨by rw [e.out]; rfl, pw_below_drewN HB2.out _⟩
                      have d8 := decide_eq_false v7
                      have e0 := Aside0.mk (show relD0 l0_1.length d j = false by unfold relD0; simp only [hrr, dc]; rw [if_neg v0, if_neg v1, if_neg v2, if_neg id, if_neg v4, if_neg v5, if_neg v6, d8])
                      as_aux_lemma =>
                        go_quiet (fail)
                        go_wp2_with fail
                        go_roundg k2
                        case measure => omega
                        case rel => exact ⟨j + 1, by go_num, by omega, ⟨by have := hk2.out; omega⟩, ⟨by have h := H.out; rw [e0.out] at h; exact h⟩, ⟨pw_below_drewN HB2.out _⟩, ⟨blk_drewN BP2.out _⟩, ⟨blk_drewN BD2.out _⟩⟩
                    case inl =>
                      have d3 : decide (0 < (j : Int)) = false := decide_eq_false (by omega)
                      have d3' : decide (0 < j) = false := decide_eq_false (by omega)
                      clear hz
                      by_cases v4 : rr.f2 < 0
                      · as_aux_lemma =>
                          have e := Aside0.mk (hbad (by unfold relD0; simp only [hrr, dc]; rw [if_neg v0, if_neg v1, if_neg v2, if_neg id, if_pos v4]))
                          have d5 := decide_eq_true v4
                          go_quiet (fail)
                          go_wp2_with fail
                          go_ret
                          exact ⟨by rw [e.out]; rfl, pw_below_drewN HB2.out _⟩
                      have d5 := decide_eq_false v4
                      by_cases v5 : (l0_1.length : Int) ≤ rr.f2
                      · as_aux_lemma =>
                          have e := Aside0.mk (hbad (by unfold relD0; simp only [hrr, dc]; rw [if_neg v0, if_neg v1, if_neg v2, if_neg id, if_neg v4, if_pos v5]))
                          have d6 := decide_eq_true v5
                          go_quiet (fail)
                          go_wp2_with fail
                          go_ret
                          exact ⟨by rw [e.out]; rfl, pw_below_drewN HB2.out _⟩
                      have d6 := decide_eq_false v5
                      by_cases v6 : rr.f3 < -1048576
                      · as_aux_lemma =>
                          have e := Aside0.mk (hbad (by unfold relD0; simp only [hrr, dc]; rw [if_neg v0, if_neg v1, if_neg v2, if_neg id, if_neg v4, if_neg v5, if_pos v6]))
                          have d7 := decide_eq_true v6
                          go_quiet (fail)
                          go_wp2_with fail
                          go_ret
                          exact ⟨by rw [e.out]; rfl, pw_below_drewN HB2.out _⟩
                      have d7 := decide_eq_false v6
                      by_cases v7 : 1048576 < rr.f3
                      · as_aux_lemma =>
                          have e := Aside0.mk (hbad (by unfold relD0; simp only [hrr, dc]; rw [if_neg v0, if_neg v1, if_neg v2, if_neg id, if_neg v4, if_neg v5, if_neg v6, decide_eq_true v7]))
                          have d8 := decide_eq_true v7
                          go_quiet (fail)
                          go_wp2_with fail
                          go_ret
                          exact ⟨by rw [e.out]; rfl, pw_below_drewN HB2.out _⟩
                      have d8 := decide_eq_false v7
                      have e0 := Aside0.mk (show relD0 l0_1.length d j = false by unfold relD0; simp only [hrr, dc]; rw [if_neg v0, if_neg v1, if_neg v2, if_neg id, if_neg v4, if_neg v5, if_neg v6, d8])
                      as_aux_lemma =>
                        go_quiet (fail)
                        go_wp2_with fail
                        go_roundg k2
                        case measure => omega
                        case rel => exact ⟨j + 1, by go_num, by omega, ⟨by have := hk2.out; omega⟩, ⟨by have h := H.out; rw [e0.out] at h; exact h⟩, ⟨pw_below_drewN HB2.out _⟩, ⟨blk_drewN BP2.out _⟩, ⟨blk_drewN BD2.out _⟩⟩
                  · have hge : d.f4.length ≤ j := by omega
                    have h := H.out
                    rw [allFrom_end _ _ _ hge, Bool.true_and] at h
                    rw [← HTail.out] at h
                    have H' := Aside0.mk h
                    go_wp2_with fail
                    go_roundg k1
                    case measure => omega
                    case rel => exact ⟨i + 1, by go_num, by omega, ⟨by have := hk.out; omega⟩, H', HB, BP⟩
            · have hge : l0_1.length ≤ i := by omega
              have h := H.out
              rw [allFrom_end _ _ _ hge] at h
              subst h
              go_wp2_with fail
              go_ret
              exact ⟨rfl, HB.out⟩
end Go.Proofs.Ytdnfofhfllnhiaa.Q
