/- patch.Data: the contract by hand. Own work; a template. -/
import Derived.Test.YtdnfofhfllnhiaaQA
import Derived.Test.YtdnfofhfllnhiaaHpdd
import Derived.Test.YtdnfofhfllnhiaaCode
import Derived.Test.YtdnfofhfllnhiaaQP
import Derived.StillTailTactics
namespace Go.Proofs.Ytdnfofhfllnhiaa.Q
open Go.RowKit Go.Proofs.YtdnfofhfllnhiaaW.PrintWords Go.Proofs.YtdnfofhfllnhiaaW.PrintLast Go.Proofs.YtdnfofhfllnhiaaW.PrintMore
set_option linter.unusedVariables false
set_option linter.unusedSimpArgs false
theorem halt_pd {G : Prop} (k : ∀ P : Prop, Aside0 (P = G) → P) : G := k G ⟨rfl⟩
theorem row_of_own {w : World} {base g n : Nat} {e : TypeId} {k : IntKind} {xs : List Int} (h : w.ownsRow base e 1 (.slice (some ⟨g, 0, none⟩) n n) n (nums k xs)) : w.heap[g]? = some (.cells (nums k xs).toArray e (0, 0)) := by
  obtain ⟨hl, ⟨hv, _⟩ | ⟨g', cap, cur, hv, hb, hh, h1, h2, hs, ht⟩⟩ := h
  · cases hv
  · injection hv with e1 e2 e3
    injection e1 with e1
    injection e1 with e1
    subst e1 e3
    rw [hh, ← ht, List.take_of_length_le (by simp; omega)]
theorem own_of_row {w : World} {base g n : Nat} {e : TypeId} {k : IntKind} {xs : List Int} (h : w.heap[g]? = some (.cells (nums k xs).toArray e (0, 0))) (hb : base ≤ g) (hn : xs.length = n) (hm : n ≤ 9223372036854775807) : w.ownsRow base e 1 (.slice (some ⟨g, 0, none⟩) n n) n (nums k xs) :=
  ⟨by simp [nums_length, hn], .inr ⟨g, n, _, rfl, hb, h, Nat.le_refl _, by simpa [maxLen] using hm, by simp [nums_length, hn], by simp only [Nat.mul_one, List.toList_toArray]; exact List.take_of_length_le (by rw [nums_length]; omega)⟩⟩
theorem nums_splice (k : IntKind) (xs : List Int) (o : Nat) (ys : List Int) : splice (nums k xs) o (nums k ys) = nums k (splice xs o ys) := by
  simp [splice, nums]
theorem value_eq (l0 l1 : List Int) (a2 a3 a4 b0 b1 b2 b3 : Int) (h : 0 ≤ b2 ∧ b2 < (l1.length : Int)) : patch_value.f l0 l1 a2 a3 a4 b0 b1 b2 b3 = some (valD (rd l1 b2) b3 % 4294967296, decide (0 ≤ valD (rd l1 b2) b3 ∧ valD (rd l1 b2) b3 < 4294967296)) := by
  unfold patch_value.f place_Address.f
  rw [if_pos h.1, if_pos h.2]
  simp only [Option.bind_some, Code.cut32]
  show (if valD (rd l1 b2) b3 ≥ 0 then some (valD (rd l1 b2) b3 % 4294967296, decide (valD (rd l1 b2) b3 < 4294967296)) else some (valD (rd l1 b2) b3 % 4294967296, false)) = _
  by_cases g : valD (rd l1 b2) b3 ≥ 0
  · rw [if_pos g]
    simp [g]
  · rw [if_neg g]
    simp [g]
theorem dataB_step {l0 l1 : List Int} {a2 a3 a4 : Int} {rr : S46} {rs : List S46} {xs : List Int} {q : List Int × Int} (h : dataB l1 (rr :: rs) xs = some q) :
    ∃ v ok, patch_value.f l0 l1 a2 a3 a4 rr.f0 rr.f1 rr.f2 rr.f3 = some (v, ok) ∧ (ok = false → q = ([], 7)) ∧ (ok = true → ∃ b1 b2 b3 b4, bits_Put.f v = some (b1, b2, b3, b4) ∧ (0 ≤ rr.f0 ∧ rr.f0 + 4 ≤ (xs.length : Int)) ∧ dataB l1 rs (splice xs rr.f0.toNat [b1, b2, b3, b4]) = some q) := by
  unfold dataB at h
  by_cases hi : 0 ≤ rr.f2 ∧ rr.f2 < (l1.length : Int)
  case neg => rw [if_neg hi] at h; cases h
  rw [if_pos hi] at h
  refine ⟨_, _, value_eq l0 l1 a2 a3 a4 rr.f0 rr.f1 rr.f2 rr.f3 hi, fun e => ?_, fun e => ?_⟩
  · rw [if_neg (by simpa using e)] at h
    exact (Option.some.inj h).symm
  · have e := of_decide_eq_true e
    rw [if_pos e] at h
    refine ⟨_, _, _, _, rfl, ?_⟩
    by_cases hf : 0 ≤ rr.f0 ∧ rr.f0 + 4 ≤ (xs.length : Int)
    case neg => rw [if_neg hf] at h; cases h
    rw [if_pos hf] at h
    refine ⟨hf, ?_⟩
    rw [Int.emod_eq_of_lt e.1 e.2]
    exact h
set_option maxHeartbeats 8000000 in
set_option maxRecDepth 100000 in
theorem patch_Data.calls (A0_0 : Option Addr) (c0_0 : Nat) (l0_0 : List S44) (A0_1 : Option Addr) (c0_1 : Nat) (l0_1 : List S55) (a0_2 : Int) (A1_0 : Option Addr) (c1_0 : Nat) (l1_0 : List Int) (A1_1 : Option Addr) (c1_1 : Nat) (l1_1 : List Int) (a1_2 : Int) (a1_3 : Int) (a1_4 : Int) (a2 : Int) (r1 : List Int) (r2 : Int) (w : World)
    (hr0_0 : Kd.C k44 w A0_0 l0_0.length l0_0) (hc0_0 : l0_0.length ≤ c0_0) (hr0_1 : Kd.C k55 w A0_1 l0_1.length l0_1) (hc0_1 : l0_1.length ≤ c0_1) (hr1_0 : Kd.C (Kd.int .i64) w A1_0 l1_0.length l1_0) (hc1_0 : l1_0.length ≤ c1_0) (hr1_1 : Kd.C (Kd.int .i64) w A1_1 l1_1.length l1_1) (hc1_1 : l1_1.length ≤ c1_1)
    (h : patch_Data.f l0_0 l0_1 a0_2 l1_0 l1_1 a1_2 a1_3 a1_4 a2 = some (r1, r2)) :
    Calls Try.prog 14 #[.agg #[.slice A0_0 l0_0.length c0_0, .slice A0_1 l0_1.length c0_1, .int .i64 a0_2], .agg #[.slice A1_0 l1_0.length c1_0, .slice A1_1 l1_1.length c1_1, .int .i64 a1_2, .int .i64 a1_3, .int .i64 a1_4], .int .i64 a2] w fun e w' => ∃ v0_ : Value, e = .returned (.tuple #[v0_, .int .i64 r2]) ∧ Kd.R (Kd.int .u8) 5 w' w.heap.size (fun _ => True) v0_ r1 ∧ Below w.heap.size w w' := by
  unfold patch_Data.f at h
  by_cases hg : 0 ≤ a2 ∧ a2 < (l0_1.length : Int) ∧ dataS (rd_T55 l0_1 a2)
  case neg => rw [if_neg hg] at h; cases h
  rw [if_pos hg] at h
  obtain ⟨g0, g1, hS⟩ := hg
  obtain ⟨ad, A3, c3, A4, c4, ea, e0, e1, e2, e3, e4, hl3, hi3, hl4, hi4⟩ := at_T55 hr0_1 a2 g0 g1
  subst ea
  generalize rd_T55 l0_1 a2 = d at *
  obtain ⟨s0, s1, s2, s3⟩ := hS
  obtain ⟨n, hn⟩ : ∃ n : Nat, d.f2 = n := ⟨d.f2.toNat, by omega⟩
  rw [hn] at h e2 s2
  rw [Int.toNat_natCast] at h
  have hn1 : n ≤ 1099511627776 := by omega
  have hmk := print_make (P := Try.prog) 38 5 .u8 1 Try.underlying38 (by kernel_rfl) (by decide) n (by omega)
  have H := Aside0.mk h
  have HR3 := Aside0.mk hi3
  have HR4 := Aside0.mk hi4
  have HP0 := Aside0.mk hr1_0
  have HP1 := Aside0.mk hr1_1
  clear h hi3 hi4 hr0_0 hr0_1 hr1_0 hr1_1 e0 e1 s0 s1
  have hu25 := Try.underlying25
  have hu30 := Try.underlying30
  have hu46 := Try.underlying46
  have hu55 := Try.underlying55
  go_enter Try.func14, Try.ntmps14
  go_wp2_with (first | ((with_reducible refine gate_dst (N := 14) rfl ?_); refine halt_pd (fun P_ hP_ => ?_)))
  have hP := hP_.out
  clear hP_
  obtain ⟨gp, hgp⟩ : ∃ gp, gp = w.heap.size := ⟨_, rfl⟩
  obtain ⟨gx, hgx⟩ : ∃ gx, gx = w.heap.size + 1 := ⟨_, rfl⟩
  obtain ⟨W0, hW0⟩ : ∃ W0, W0 = (w.alloc (.cells #[.slice A0_0 l0_0.length c0_0, .slice (some ad) l0_1.length c0_1, .int .i64 a0_2] 25)).alloc (.cells #[.slice A1_0 l1_0.length c1_0, .slice A1_1 l1_1.length c1_1, .int .i64 a1_2, .int .i64 a1_3, .int .i64 a1_4] 30) := ⟨_, rfl⟩
  rw [← hW0, ← hgx, ← hgp] at hP
  have BP := Aside0.mk (by rw [hW0, hgp]; exact blk_alloc (blk_new _ _) _ : W0.heap[gp]? = some (.cells #[.slice A0_0 l0_0.length c0_0, .slice (some ad) l0_1.length c0_1, .int .i64 a0_2] 25 (0, 0)))
  have BX := Aside0.mk (by rw [hW0, hgx]; have q := blk_new (w.alloc (.cells #[.slice A0_0 l0_0.length c0_0, .slice (some ad) l0_1.length c0_1, .int .i64 a0_2] 25)) (.cells #[.slice A1_0 l1_0.length c1_0, .slice A1_1 l1_1.length c1_1, .int .i64 a1_2, .int .i64 a1_3, .int .i64 a1_4] 30); simp only [World.size_alloc] at q; exact q : W0.heap[gx]? = some (.cells #[.slice A1_0 l1_0.length c1_0, .slice A1_1 l1_1.length c1_1, .int .i64 a1_2, .int .i64 a1_3, .int .i64 a1_4] 30 (0, 0)))
  have HB := Aside0.mk (by rw [hW0]; exact below_alloc (below_alloc (Below.refl _ _) _) _ : Below w.heap.size w W0)
  have gep : w.heap.size ≤ gp := by omega
  clear hW0 hgp hgx
  have hcp1 : W0.cell? ⟨gp, 1, none⟩ = some (.slice (some ad) l0_1.length c0_1) := (blk_cell BP.out 1).trans rfl
  have E2 := Aside0.mk e2
  have E3 := Aside0.mk e3
  have E4 := Aside0.mk e4
  clear e2 e3 e4
  have e2 := (HB.out.cell (World.block_lt_of_cell? w _ E2.out)).trans E2.out
  have p1 : (0 ≤ a2) = True := eq_true g0
  have q1 : (a2 < (l0_1.length : Int)) = True := eq_true g1
  refine Eq.mpr hP ?_
  clear hP P_
  go_wp2_with (first | ((with_reducible refine gate_dst (N := 22) rfl ?_); refine halt_pd (fun P_ hP_ => ?_)))
  have hP := hP_.out
  clear hP_ hcp1 e2
  obtain ⟨go, hgo⟩ : ∃ go, go = W0.heap.size := ⟨_, rfl⟩
  obtain ⟨W1, hW1⟩ : ∃ W1, W1 = W0.alloc (.cells (madeCells #[.int .u8 0] n) 5) := ⟨_, rfl⟩
  rw [← hW1, ← hgo] at hP
  have hgpl : gp < go := by rw [hgo]; exact blk_lt BP.out
  have hgxl : gx < go := by rw [hgo]; exact blk_lt BX.out
  have BP1 := Aside0.mk (by rw [hW1]; exact blk_alloc BP.out _ : W1.heap[gp]? = some (.cells #[.slice A0_0 l0_0.length c0_0, .slice (some ad) l0_1.length c0_1, .int .i64 a0_2] 25 (0, 0)))
  have BX1 := Aside0.mk (by rw [hW1]; exact blk_alloc BX.out _ : W1.heap[gx]? = some (.cells #[.slice A1_0 l1_0.length c1_0, .slice A1_1 l1_1.length c1_1, .int .i64 a1_2, .int .i64 a1_3, .int .i64 a1_4] 30 (0, 0)))
  have HB1 := Aside0.mk (by rw [hW1]; exact below_alloc HB.out _ : Below w.heap.size w W1)
  have HG1 := Aside0.mk (by rw [hW1, hgo]; exact row_of_own (own_made W0 W0.heap.size 5 .u8 n (Nat.le_refl _) (by omega)) : W1.heap[go]? = some (.cells (nums .u8 (List.replicate n 0)).toArray 5 (0, 0)))
  clear hW1 hgo BP BX HB hmk
  have hcp1 : W1.cell? ⟨gp, 1, none⟩ = some (.slice (some ad) l0_1.length c0_1) := (blk_cell BP1.out 1).trans rfl
  have e3 := (HB1.out.cell (World.block_lt_of_cell? w _ E3.out)).trans E3.out
  have hpos : 0 < (nums .u8 d.f3).length → some (⟨go, 0, none⟩ : Addr) = some ⟨go, 0, none⟩ ∧ ∃ ad', A3 = some ad' ∧ ∀ j v, (nums .u8 d.f3)[j]? = some v → W1.cell? (ad'.add j) = some v := by
    intro hp
    rw [nums_length] at hp
    obtain ⟨ad3, ea3, _⟩ := Kd.at_int HR3.out 0 (by omega) (by omega)
    refine ⟨rfl, ad3, ea3, fun j v hj => ?_⟩
    have hjl : j < d.f3.length := by
      rw [← nums_length .u8]
      exact (List.getElem?_eq_some_iff.1 hj).1
    obtain ⟨ad3', ea3', hc⟩ := Kd.at_int HR3.out (j : Int) (by omega) (by omega)
    obtain rfl : ad3 = ad3' := Option.some.inj (ea3.symm.trans ea3')
    rw [Int.toNat_natCast] at hc
    rw [(HB1.out.cell (World.block_lt_of_cell? w _ hc)).trans hc]
    unfold nums at hj
    rw [List.getElem?_map] at hj
    obtain ⟨x, hx, rfl⟩ := Option.map_eq_some_iff.1 hj
    unfold rd
    simp [List.getD_eq_getElem?_getD, hx]
  have HPOS := Aside0.mk hpos
  clear hpos
  have hfit : 0 + (nums .u8 d.f3).length ≤ (nums .u8 (List.replicate n 0)).length := by rw [nums_length, nums_length, List.length_replicate]; omega
  have hone : ∀ v ∈ nums .u8 d.f3, v.oneCell' = true := by
    intro v hv
    obtain ⟨x, _, rfl⟩ := List.mem_map.1 hv
    rfl
  have hmin : (nums .u8 d.f3).length = Nat.min d.f3.length n := by rw [nums_length]; exact (Nat.min_eq_left (by omega)).symm
  refine Eq.mpr hP ?_
  clear hP P_
  go_wp2_with (first | ((with_reducible refine gate_dst (N := 28) rfl ?_); refine wpList_copy_splice rfl (.tmp 21) (.tmp 27) 38 38 rfl 5 Try.underlying38 (by kernel_rfl) (some ⟨go, 0, none⟩) A3 n n d.f3.length c3 rfl rfl go 0 (nums .u8 (List.replicate n 0)) 5 HG1.out (nums .u8 d.f3) hmin HPOS.out hfit hone go W1 (Below.refl _ _) (Nat.le_refl _) ?_; intro w2 HG2 hB2) | ((with_reducible refine gate_dst (N := 29) rfl ?_); refine halt_pd (fun P_ hP_ => ?_)))
  have hP := hP_.out
  clear hP_ hcp1 e3 HPOS hfit hone hmin
  have HG2 : w2.heap[go]? = some (.cells (nums .u8 (d.f3 ++ List.replicate (n - d.f3.length) 0)).toArray 5 (0, 0)) := by
    have q := HG2.out
    rw [q]
    congr 3
    simp [splice, nums]
  have HG2 := Aside0.mk HG2
  have BP2 := Aside0.mk ((hB2.block gp hgpl).trans BP1.out)
  have BX2 := Aside0.mk ((hB2.block gx hgxl).trans BX1.out)
  have HB2 := Aside0.mk (HB1.out.trans (hB2.mono (by omega)))
  clear hB2 BP1 BX1 HB1 HG1
  have hcp1 : w2.cell? ⟨gp, 1, none⟩ = some (.slice (some ad) l0_1.length c0_1) := (blk_cell BP2.out 1).trans rfl
  have e4 := (HB2.out.cell (World.block_lt_of_cell? w _ E4.out)).trans E4.out
  have H2 : Aside0 (dataB l1_1 (d.f4.drop 0) (d.f3 ++ List.replicate (n - d.f3.length) 0) = some (r1, r2)) := H
  have hxl2 : Aside0 ((d.f3 ++ List.replicate (n - d.f3.length) (0 : Int)).length = n) := ⟨by simp; omega⟩
  clear H
  generalize d.f3 ++ List.replicate (n - d.f3.length) (0 : Int) = xs0 at *
  refine Eq.mpr hP ?_
  clear hP P_
  go_wp2_with fail
  go_loopg [36] (d.f4.length + 1) (fun kq v36 w' => ∃ (i : Nat) (xs : List Int), v36 = .int .i64 i ∧ i ≤ d.f4.length ∧ Aside0 (i + kq = d.f4.length + 1) ∧ Aside0 (xs.length = n) ∧ Aside0 (dataB l1_1 (d.f4.drop i) xs = some (r1, r2)) ∧ Aside0 (Below w.heap.size w w') ∧
    Aside0 (w'.heap[gp]? = some (.cells #[.slice A0_0 l0_0.length c0_0, .slice (some ad) l0_1.length c0_1, .int .i64 a0_2] 25 (0, 0))) ∧
    Aside0 (w'.heap[gx]? = some (.cells #[.slice A1_0 l1_0.length c1_0, .slice A1_1 l1_1.length c1_1, .int .i64 a1_2, .int .i64 a1_3, .int .i64 a1_4] 30 (0, 0))) ∧
    Aside0 (w'.heap[go]? = some (.cells (nums .u8 xs).toArray 5 (0, 0))))
  case atStart => exact ⟨0, xs0, rfl, Nat.zero_le _, ⟨by omega⟩, hxl2, H2, HB2, BP2, BX2, HG2⟩
  case round =>
    clear hxl2 H2 HB2 BP2 BX2 HG2 hcp1 e4
    obtain ⟨i, xs, rfl, hi, hk, hxl, H, HB, BP, BX, HG⟩ := hrel
    cases gk with
    | zero =>
      exfalso
      have := hk.out
      omega
    | succ k1 =>
      by_cases hlt : i < d.f4.length
      · obtain ⟨ad4, ea4, f0, f1, f2, f3⟩ := at_T46 HR4.out (i : Int) (by omega) (by omega)
        subst ea4
        replace f0 := (HB.out.cell (World.block_lt_of_cell? w _ f0)).trans f0
        replace f1 := (HB.out.cell (World.block_lt_of_cell? w _ f1)).trans f1
        replace f2 := (HB.out.cell (World.block_lt_of_cell? w _ f2)).trans f2
        replace f3 := (HB.out.cell (World.block_lt_of_cell? w _ f3)).trans f3
        simp only [Int.toNat_natCast] at f0 f1 f2 f3
        have hdr : d.f4.drop i = rd_T46 d.f4 (i : Int) :: d.f4.drop (i + 1) := by
          rw [List.drop_eq_getElem_cons hlt]
          have : rd_T46 d.f4 i = d.f4[i] := by unfold rd_T46; simp [List.getD_eq_getElem?_getD, hlt]
          rw [this]
        have H := H.out
        rw [hdr] at H
        clear hdr
        generalize rd_T46 d.f4 (i : Int) = rr at *
        obtain ⟨v, ok, hv, hF, hT⟩ := dataB_step (l0 := l1_0) (a2 := a1_2) (a3 := a1_3) (a4 := a1_4) H
        have HV := Aside0.mk hv
        have HF := Aside0.mk hF
        have HT := Aside0.mk hT
        clear hv hF hT H
        go_wp2_with (first | ((with_reducible refine gate_dst (N := 41) rfl ?_); refine halt_pd (fun P_ hP_ => ?_)))
        have hP := hP_.out
        clear hP_
        obtain ⟨gr, hgr⟩ : ∃ gr, gr = wr.heap.size := ⟨_, rfl⟩
        obtain ⟨W2, hW2⟩ : ∃ W2, W2 = wr.alloc (.cells #[.int .i64 rr.f0, .int .i64 rr.f1, .int .i64 rr.f2, .int .i64 rr.f3] 46) := ⟨_, rfl⟩
        rw [← hW2, ← hgr] at hP
        have BP2 := Aside0.mk (by rw [hW2]; exact blk_alloc BP.out _ : W2.heap[gp]? = some (.cells #[.slice A0_0 l0_0.length c0_0, .slice (some ad) l0_1.length c0_1, .int .i64 a0_2] 25 (0, 0)))
        have BX2 := Aside0.mk (by rw [hW2]; exact blk_alloc BX.out _ : W2.heap[gx]? = some (.cells #[.slice A1_0 l1_0.length c1_0, .slice A1_1 l1_1.length c1_1, .int .i64 a1_2, .int .i64 a1_3, .int .i64 a1_4] 30 (0, 0)))
        have HG2 := Aside0.mk (by rw [hW2]; exact blk_alloc HG.out _ : W2.heap[go]? = some (.cells (nums .u8 xs).toArray 5 (0, 0)))
        have BR2 := Aside0.mk (by rw [hW2, hgr]; exact blk_new _ _ : W2.heap[gr]? = some (.cells #[.int .i64 rr.f0, .int .i64 rr.f1, .int .i64 rr.f2, .int .i64 rr.f3] 46 (0, 0)))
        have HB2 := Aside0.mk (by rw [hW2]; exact below_alloc HB.out _ : Below w.heap.size w W2)
        clear hW2 hgr BP BX HG HB f0 f1 f2 f3
        have x0 : W2.cell? ⟨gx, 0, none⟩ = some (.slice A1_0 l1_0.length c1_0) := (blk_cell BX2.out 0).trans rfl
        have x1 : W2.cell? ⟨gx, 1, none⟩ = some (.slice A1_1 l1_1.length c1_1) := (blk_cell BX2.out 1).trans rfl
        have x2 : W2.cell? ⟨gx, 2, none⟩ = some (.int .i64 a1_2) := (blk_cell BX2.out 2).trans rfl
        have x3 : W2.cell? ⟨gx, 3, none⟩ = some (.int .i64 a1_3) := (blk_cell BX2.out 3).trans rfl
        have x4 : W2.cell? ⟨gx, 4, none⟩ = some (.int .i64 a1_4) := (blk_cell BX2.out 4).trans rfl
        have y0 : W2.cell? ⟨gr, 0, none⟩ = some (.int .i64 rr.f0) := (blk_cell BR2.out 0).trans rfl
        have y1 : W2.cell? ⟨gr, 1, none⟩ = some (.int .i64 rr.f1) := (blk_cell BR2.out 1).trans rfl
        have y2 : W2.cell? ⟨gr, 2, none⟩ = some (.int .i64 rr.f2) := (blk_cell BR2.out 2).trans rfl
        have y3 : W2.cell? ⟨gr, 3, none⟩ = some (.int .i64 rr.f3) := (blk_cell BR2.out 3).trans rfl
        refine Eq.mpr hP ?_
        clear hP P_
        go_wp2_with (first | ((with_reducible refine gate_callee (f := 30) rfl ?_); refine goesL_ (some 43) rfl rfl Try.func30 (by kernel_rfl) rfl #[.agg #[.slice A1_0 l1_0.length c1_0, .slice A1_1 l1_1.length c1_1, .int .i64 a1_2, .int .i64 a1_3, .int .i64 a1_4], .agg #[.int .i64 rr.f0, .int .i64 rr.f1, .int .i64 rr.f2, .int .i64 rr.f3]] rfl (by (try simp only [List.map_toArray, List.map_cons, List.map_nil]); first | done | rfl) ?_; (with_reducible refine (patch_value.calls A1_0 c1_0 l1_0 A1_1 c1_1 l1_1 a1_2 a1_3 a1_4 rr.f0 rr.f1 rr.f2 rr.f3 v ok _ (Kd.C_below HP0.out HB2.out) hc1_0 (Kd.C_below HP1.out HB2.out) hc1_1 HV.out).mono ?_); rintro e w3 ⟨rfl, hb⟩; refine ⟨_, rfl, ?_⟩) | ((with_reducible refine gate_dst (N := 47) rfl ?_); refine halt_pd (fun P_ hP_ => ?_)))
        have hP := hP_.out
        clear hP_ x0 x1 x2 x3 x4 y0 y1 y2 y3
        have BP3 := Aside0.mk (blk_below (g := gp) BP2.out hb)
        have BX3 := Aside0.mk (blk_below (g := gx) BX2.out hb)
        have HG3 := Aside0.mk (blk_below (g := go) HG2.out hb)
        have BR3 := Aside0.mk (blk_below (g := gr) BR2.out hb)
        have HB3 := Aside0.mk (below_step HB2.out hb)
        clear hb BP2 BX2 HG2 BR2 HB2
        cases ok with
        | false =>
          have h := HF.out rfl
          simp only [Prod.mk.injEq] at h
          obtain ⟨rfl, rfl⟩ := h
          refine Eq.mpr hP ?_
          clear hP P_
          go_wp2_with fail
          go_ret2
          exact ⟨_, rfl, Kd.R_nil _ _ _ _ _, HB3.out⟩
        | true =>
          obtain ⟨b1, b2, b3, b4, hp, hfit, h⟩ := HT.out rfl
          have HN := Aside0.mk h
          have HPut := Aside0.mk hp
          clear h hp HF HT
          obtain ⟨o, ho⟩ : ∃ o : Nat, rr.f0 = o := ⟨rr.f0.toNat, by omega⟩
          have hol : o + 4 ≤ n := by have := hxl.out; omega
          clear hfit
          refine Eq.mpr hP ?_
          clear hP P_
          go_wp2_with (first | ((with_reducible refine gate_callee (f := 31) rfl ?_); refine goesL_ (some 49) rfl rfl Try.func31 (by kernel_rfl) rfl #[.int .u32 v] rfl (by (try simp only [List.map_toArray, List.map_cons, List.map_nil]); first | done | rfl) ?_; (with_reducible refine (bits_Put.calls v b1 b2 b3 b4 _ HPut.out).mono ?_); rintro e w4 ⟨rfl, hb⟩; refine ⟨_, rfl, ?_⟩))
          have hP1 : (nums .u8 [b1, b2, b3, b4]).length = Nat.min 4 (n - o) := show 4 = Nat.min 4 (n - o) from (Nat.min_eq_left (by omega)).symm
          have hF1 : o + (nums .u8 [b1, b2, b3, b4]).length ≤ (nums .u8 xs).length := by rw [nums_length, nums_length, hxl.out]; exact hol
          have hO1 : ∀ v ∈ nums .u8 [b1, b2, b3, b4], v.oneCell' = true := by
            intro v hv
            obtain ⟨x, _, rfl⟩ := List.mem_map.1 hv
            rfl
          obtain ⟨gb, hgb⟩ : ∃ gb, gb = w4.heap.size := ⟨_, rfl⟩
          obtain ⟨W5, hW5⟩ : ∃ W5, W5 = (w4.alloc (.cells #[.int .u8 b1, .int .u8 b2, .int .u8 b3, .int .u8 b4] 73)).drew := ⟨_, rfl⟩
          have BP5 := Aside0.mk (by rw [hW5]; exact blk_drew (blk_alloc (blk_below (g := gp) BP3.out hb) _) : W5.heap[gp]? = some (.cells #[.slice A0_0 l0_0.length c0_0, .slice (some ad) l0_1.length c0_1, .int .i64 a0_2] 25 (0, 0)))
          have BX5 := Aside0.mk (by rw [hW5]; exact blk_drew (blk_alloc (blk_below (g := gx) BX3.out hb) _) : W5.heap[gx]? = some (.cells #[.slice A1_0 l1_0.length c1_0, .slice A1_1 l1_1.length c1_1, .int .i64 a1_2, .int .i64 a1_3, .int .i64 a1_4] 30 (0, 0)))
          have HG5 := Aside0.mk (by rw [hW5]; exact blk_drew (blk_alloc (blk_below (g := go) HG3.out hb) _) : W5.heap[go]? = some (.cells (nums .u8 xs).toArray 5 (0, 0)))
          have BR5 := Aside0.mk (by rw [hW5]; exact blk_drew (blk_alloc (blk_below (g := gr) BR3.out hb) _) : W5.heap[gr]? = some (.cells #[.int .i64 rr.f0, .int .i64 rr.f1, .int .i64 rr.f2, .int .i64 rr.f3] 46 (0, 0)))
          have BB5 := Aside0.mk (by rw [hW5, hgb]; exact blk_drew (blk_new _ _) : W5.heap[gb]? = some (.cells #[.int .u8 b1, .int .u8 b2, .int .u8 b3, .int .u8 b4] 73 (0, 0)))
          have HB5 := Aside0.mk (by rw [hW5]; exact below_drew1 (below_alloc (below_step HB3.out hb) _) : Below w.heap.size w W5)
          refine wp_region_still_tail 5 (by kernel_rfl) (by kernel_rfl) ?_
          simp only [List.take_succ_cons, List.take_zero, List.drop_succ_cons, List.drop_zero]
          show wpStill _ _ (World.drew (w4.alloc _)) (fun a' => wpList _ _ _ _ a' (World.drew (w4.alloc _))) _ _
          rw [← hW5, ← hgb]
          clear hW5 hgb hb BP3 BX3 HG3 BR3 HB3
          have r0 : W5.cell? ⟨gr, 0, none⟩ = some (.int .i64 (o : Int)) := by rw [← ho]; exact (blk_cell BR5.out 0).trans rfl
          have hQ : Aside0 (0 < (nums .u8 [b1, b2, b3, b4]).length → some (⟨go, o, none⟩ : Addr) = some ⟨go, o, none⟩ ∧ ∃ ad', some (⟨gb, 0, none⟩ : Addr) = some ad' ∧ ∀ j v, (nums .u8 [b1, b2, b3, b4])[j]? = some v → W5.cell? (ad'.add j) = some v) := ⟨fun _ => ⟨rfl, _, rfl, fun j v hj => by
            have q := blk_cell BB5.out j
            rw [show (⟨gb, 0, none⟩ : Addr).add j = ⟨gb, j, none⟩ from by unfold Addr.add; split <;> simp_all, q]
            simpa [nums] using hj⟩⟩
          have i1 : (0 ≤ (o : Int)) = True := eq_true (by omega)
          have i2 : ((o : Int) ≤ (n : Int)) = True := eq_true (by omega)
          have i3 : (o ≤ n) = True := eq_true (by omega)
          have i4 : (o = n) = False := eq_false (by omega)
          have i5 : (n = o) = False := eq_false (by omega)
          have HQ1 := Aside0.mk hP1
          have HQ2 := Aside0.mk hF1
          have HQ3 := Aside0.mk hO1
          clear hP1 hF1 hO1
          still_step
          still_step
          still_step
          still_step
          still_step
          refine wpStill_nil ?_
          go_wp2_with (first | ((with_reducible refine gate_dst (N := 55) rfl ?_); refine wpList_copy_splice rfl (.tmp 53) (.tmp 54) 38 38 rfl 5 Try.underlying38 (by kernel_rfl) (some ⟨go, o, none⟩) (some ⟨gb, 0, none⟩) (n - o) (n - o) 4 4 rfl rfl go o (nums .u8 xs) 5 HG5.out (nums .u8 [b1, b2, b3, b4]) HQ1.out hQ.out HQ2.out HQ3.out go W5 (Below.refl _ _) (Nat.le_refl _) ?_; intro w6 HG6 hB6))
          have HG6 := Aside0.mk HG6.out
          rw [nums_splice] at HG6
          go_roundg k1
          case measure => omega
          case rel =>
            refine ⟨i + 1, splice xs o [b1, b2, b3, b4], by go_num, by omega, ⟨by have := hk.out; omega⟩, ⟨by rw [length_splice _ _ _ (by simp; have := hxl.out; omega)]; exact hxl.out⟩, ⟨by have h := HN.out; rw [ho, Int.toNat_natCast] at h; exact h⟩, ⟨HB5.out.trans (hB6.mono (by omega))⟩, ⟨(hB6.block gp hgpl).trans BP5.out⟩, ⟨(hB6.block gx hgxl).trans BX5.out⟩, HG6⟩
      · have hge : d.f4.length ≤ i := by omega
        have h := H.out
        rw [List.drop_of_length_le hge] at h
        simp only [dataB, Option.some.injEq, Prod.mk.injEq] at h
        obtain ⟨rfl, rfl⟩ := h
        clear H
        have hbg : w.heap.size ≤ go := by omega
        have hnm : n ≤ 9223372036854775807 := by omega
        have hR : Kd.R (Kd.int .u8) 5 wr w.heap.size (fun _ => True) (.slice (some ⟨go, 0, none⟩) n n) xs := Kd.R_of_own (by rw [hxl.out]; exact own_of_row HG.out hbg hxl.out hnm) (fun _ _ => trivial)
        go_wp2_with fail
        go_ret2
        exact ⟨_, rfl, hR, HB.out⟩
end Go.Proofs.Ytdnfofhfllnhiaa.Q
