/- place.datas and its closure: the contract by hand. Own work; a template. -/
import Derived.Test.YtdnfofhfllnhiaaQ0
import Derived.Test.YtdnfofhfllnhiaaHdd
import Derived.StillTailTactics
namespace Go.Proofs.Ytdnfofhfllnhiaa.Q
open Go.RowKit Go.Proofs.YtdnfofhfllnhiaaW.PrintWords Go.Proofs.YtdnfofhfllnhiaaW.PrintLast Go.Proofs.YtdnfofhfllnhiaaW.PrintMore
set_option linter.unusedVariables false
set_option linter.unusedSimpArgs false
theorem upZ_no {x al : Int} (h : ¬ (0 ≤ x ∧ x ≤ 1099511627776 ∧ 1 ≤ al ∧ al ≤ 1048576)) : upZ x al = -1 := if_neg h
theorem upZ_yes {x al : Int} (h : 0 ≤ x ∧ x ≤ 1099511627776 ∧ 1 ≤ al ∧ al ≤ 1048576) : upZ x al = (x + al - 1) / al * al := if_pos h
theorem upZ_wrap {x al : Int} (h : 0 ≤ x ∧ x ≤ 1099511627776 ∧ 1 ≤ al ∧ al ≤ 1048576) : wrap64 ((x + al - 1) / al * al) = (x + al - 1) / al * al := by
  have h1 := Int.ediv_mul_le (x + al - 1) (b := al) (by omega)
  have h2 : 0 ≤ (x + al - 1) / al * al := Int.mul_nonneg (Int.ediv_nonneg (by omega) (by omega)) (by omega)
  unfold wrap64
  omega
set_option maxHeartbeats 1000000 in
theorem up_same (x al : Int) (w : World) : Calls Try.prog 40 #[.int .i64 x, .int .i64 al] w fun e w' => e = .returned (.int .i64 (upZ x al)) ∧ w' = w := by
  by_cases h : 0 ≤ x ∧ x ≤ 1099511627776 ∧ 1 ≤ al ∧ al ≤ 1048576
  · have hu := Aside0.mk (upZ_yes h)
    have hv := Aside0.mk (upZ_wrap h)
    obtain ⟨h1, h2, h3, h4⟩ := h
    go_enter Try.func40, Try.ntmps40
    go_wp2
    all_goals first | (go_ret; exact ⟨by simp [hu.out, hv.out], rfl⟩) | (exfalso; omega)
  · have hu := Aside0.mk (upZ_no h)
    by_cases h1 : x < 0
    · go_enter Try.func40, Try.ntmps40
      go_wp2
      go_ret
      exact ⟨by simp [hu.out], rfl⟩
    by_cases h2 : 1099511627776 < x
    · go_enter Try.func40, Try.ntmps40
      go_wp2
      go_ret
      exact ⟨by simp [hu.out], rfl⟩
    by_cases h3 : al < 1
    · go_enter Try.func40, Try.ntmps40
      go_wp2
      go_ret
      exact ⟨by simp [hu.out], rfl⟩
    have h4 : 1048576 < al := by omega
    go_enter Try.func40, Try.ntmps40
    go_wp2
    go_ret
    exact ⟨by simp [hu.out], rfl⟩

/-- One round of the closure's loop, in lists. -/
theorem layD_drop (fx : Bool) (ds : List S55) (i : Nat) (h : i < ds.length) (xs : List Int) (e : Int) : layD fx (ds.drop i) i xs e =
    if (rd_T55 ds i).f1 = fx then layD fx (ds.drop (i + 1)) (i + 1) (xs.set i (upZ e (rd_T55 ds i).f0)) (wrap64 (upZ e (rd_T55 ds i).f0 + (rd_T55 ds i).f2)) else layD fx (ds.drop (i + 1)) (i + 1) xs e := by
  rw [List.drop_eq_getElem_cons h]
  have : rd_T55 ds i = ds[i] := by unfold rd_T55; simp [List.getD_eq_getElem?_getD, h]
  rw [this]
  rfl
set_option maxHeartbeats 4000000 in
set_option maxRecDepth 100000 in
theorem datas1_calls (fx : Bool) (bp be ba : Nat) (A0 A1 : Option Addr) (n0 c0 c1 : Nat) (e0 : Int) (ds : List S55) (en : Int) (xs : List Int) (v : Value) (w0 w : World)
    (HR : Aside0 (Kd.C k55 w0 A1 ds.length ds)) (HB : Aside0 (Below w0.heap.size w0 w)) (hx : Aside0 (xs.length = ds.length)) (hlen : ds.length ≤ 35184372088832)
    (BP : Aside0 (w.heap[bp]? = some (.cells #[.slice A0 n0 c0, .slice A1 ds.length c1, .int .i64 e0] 25 (0, 0))))
    (BE : Aside0 (w.heap[be]? = some (.cells #[.int .i64 en] 3 (0, 0))))
    (BA : Aside0 (w.heap[ba]? = some (.cells #[v] 26 (0, 0))))
    (ge : Aside0 (w0.heap.size ≤ be))
    (HO : Aside0 (Kd.R (Kd.int .i64) 3 w w0.heap.size (fun k_ => k_ ≠ be) v xs)) :
    Calls Try.prog 39 #[.bool fx, .pointer (some ⟨bp, 0, none⟩), .pointer (some ⟨be, 0, none⟩), .pointer (some ⟨ba, 0, none⟩)] w fun e w' => e = .returned (.tuple #[]) ∧ Below w0.heap.size w0 w' ∧
      w'.heap[bp]? = some (.cells #[.slice A0 n0 c0, .slice A1 ds.length c1, .int .i64 e0] 25 (0, 0)) ∧ w'.heap[be]? = some (.cells #[.int .i64 (layD fx ds 0 xs en).2] 3 (0, 0)) ∧ w'.heap[ba]? = some (.cells #[v] 26 (0, 0)) ∧
      Kd.R (Kd.int .i64) 3 w' w0.heap.size (fun k_ => k_ ≠ be) v (layD fx ds 0 xs en).1 := by
  have hu25 := Try.underlying25
  have hu55 := Try.underlying55
  have hcp : w.cell? ⟨bp, 1, none⟩ = some (.slice A1 ds.length c1) := (blk_cell BP.out 1).trans rfl
  go_enter Try.func39, Try.ntmps39
  go_wp2_with fail
  go_loopg [10] (ds.length + 1) (fun kq v10 w' => ∃ (i : Nat) (xs' : List Int) (en' : Int), v10 = .int .i64 i ∧ i ≤ ds.length ∧ Aside0 (i + kq = ds.length + 1) ∧ Aside0 (layD fx (ds.drop i) i xs' en' = layD fx ds 0 xs en) ∧ Aside0 (xs'.length = ds.length) ∧
    Aside0 (Below w0.heap.size w0 w') ∧ Aside0 (w'.heap[bp]? = some (.cells #[.slice A0 n0 c0, .slice A1 ds.length c1, .int .i64 e0] 25 (0, 0))) ∧ Aside0 (w'.heap[be]? = some (.cells #[.int .i64 en'] 3 (0, 0))) ∧ Aside0 (w'.heap[ba]? = some (.cells #[v] 26 (0, 0))) ∧
    Aside0 (Kd.R (Kd.int .i64) 3 w' w0.heap.size (fun k_ => k_ ≠ be) v xs'))
  case atStart => exact ⟨0, xs, en, rfl, Nat.zero_le _, ⟨by omega⟩, ⟨rfl⟩, hx, HB, BP, BE, BA, HO⟩
  case round =>
    clear HB BP BE BA HO hx hcp
    obtain ⟨i, xs', en', rfl, hi, hk, hl, hx, HB, BP, BE, BA, HO⟩ := hrel
    cases gk with
    | zero =>
      exfalso
      have := hk.out
      omega
    | succ k1 =>
      by_cases hlt : i < ds.length
      · have bpl := blk_lt BP.out
        have bel := blk_lt BE.out
        have bal := blk_lt BA.out
        obtain ⟨go, co, eo, gb, gl, cl, HG⟩ := Kd.R_form HO.out (by have := hx.out; omega)
        have hne : go ≠ be := HO.out.1 go (by rw [eo]; rfl)
        subst eo
        have hneb : be ≠ go := fun h => hne h.symm
        have hna : go ≠ ba := fun h => Kd.R_ne HO.out BA.out (by decide) (by rw [h]; rfl)
        have hnab : ba ≠ go := fun h => hna h.symm
        have hnp : go ≠ bp := fun h => Kd.R_ne HO.out BP.out (by decide) (by rw [h]; rfl)
        have hnpb : bp ≠ go := fun h => hnp h.symm
        have GB := Aside0.mk gb
        clear gb HG cl
        have hca : wr.cell? ⟨ba, 0, none⟩ = some (.slice (some ⟨go, 0, none⟩) xs'.length co) := (blk_cell BA.out 0).trans rfl
        have hce : wr.cell? ⟨be, 0, none⟩ = some (.int .i64 en') := (blk_cell BE.out 0).trans rfl
        have hfe := blk_frozen BE.out 0
        obtain ⟨hxc, hxf⟩ := Kd.R_celln 0 HO.out (i : Int) (by omega) (by have := hx.out; omega)
        obtain ⟨ad, A3, c3, A4, c4, ea, h0, h1, h2, h3, h4, _⟩ := at_T55 HR.out (i : Int) (by omega) (by omega)
        subst ea
        replace h0 := (HB.out.cell (World.block_lt_of_cell? w0 _ h0)).trans h0
        replace h1 := (HB.out.cell (World.block_lt_of_cell? w0 _ h1)).trans h1
        replace h2 := (HB.out.cell (World.block_lt_of_cell? w0 _ h2)).trans h2
        replace h3 := (HB.out.cell (World.block_lt_of_cell? w0 _ h3)).trans h3
        replace h4 := (HB.out.cell (World.block_lt_of_cell? w0 _ h4)).trans h4
        simp only [Int.toNat_natCast] at hxc hxf h0 h1 h2 h3 h4
        have hxl : i < xs'.length := by have := hx.out; omega
        have hd := layD_drop fx ds i hlt xs' en'
        generalize rd_T55 ds (i : Int) = d at *
        have hd := Aside0.mk hd
        cases hf : d.f1 == fx
        · have hn : ¬ d.f1 = fx := by simpa using hf
          go_wp2_with fail
          go_roundg k1
          case measure => omega
          case rel => exact ⟨i + 1, xs', en', by go_num, by omega, ⟨by have := hk.out; omega⟩, ⟨by have h := hl.out; rw [hd.out, if_neg hn] at h; exact h⟩, hx, ⟨below_alloc HB.out _⟩, ⟨blk_alloc BP.out _⟩, ⟨blk_alloc BE.out _⟩, ⟨blk_alloc BA.out _⟩, ⟨Kd.R_alloc HO.out _⟩⟩
        · have hy : d.f1 = fx := by simpa using hf
          go_wp2_with fail
          obtain ⟨W1, hW1⟩ : ∃ W1, W1 = (wr.alloc (.cells #[.int .i64 d.f0, .bool fx, .int .i64 d.f2, .slice A3 d.f3.length c3, .slice A4 d.f4.length c4] 55)).drew := ⟨_, rfl⟩
          obtain ⟨gd, hgd⟩ : ∃ gd, gd = wr.heap.size := ⟨_, rfl⟩
          have BD1 : Aside0 (W1.heap[gd]? = some (.cells #[.int .i64 d.f0, .bool fx, .int .i64 d.f2, .slice A3 d.f3.length c3, .slice A4 d.f4.length c4] 55 (0, 0))) := ⟨by rw [hW1, hgd]; exact blk_drew (blk_new _ _)⟩
          have BP1 := Aside0.mk (by rw [hW1]; exact blk_drew (blk_alloc BP.out _) : W1.heap[bp]? = some (.cells #[.slice A0 n0 c0, .slice (some ad) ds.length c1, .int .i64 e0] 25 (0, 0)))
          have BE1 := Aside0.mk (by rw [hW1]; exact blk_drew (blk_alloc BE.out _) : W1.heap[be]? = some (.cells #[.int .i64 en'] 3 (0, 0)))
          have BA1 := Aside0.mk (by rw [hW1]; exact blk_drew (blk_alloc BA.out _) : W1.heap[ba]? = some (.cells #[.slice (some ⟨go, 0, none⟩) xs'.length co] 26 (0, 0)))
          have HO1 := Aside0.mk (by rw [hW1]; exact Kd.R_drew (Kd.R_alloc HO.out _) : Kd.R (Kd.int .i64) 3 W1 w0.heap.size (fun k_ => k_ ≠ be) (.slice (some ⟨go, 0, none⟩) xs'.length co) xs')
          have HB1 := Aside0.mk (by rw [hW1]; exact below_drew1 (below_alloc HB.out _) : Below w0.heap.size w0 W1)
          have hnd : go ≠ gd := by have := (Array.getElem?_eq_some_iff.1 BD1.out); intro h; exact Kd.R_ne HO1.out BD1.out (by decide) (by rw [h]; rfl)
          have hndg : gd ≠ go := fun h => hnd h.symm
          refine wp_region_still_tail 7 (by kernel_rfl) (by kernel_rfl) ?_
          simp only [List.take_succ_cons, List.take_zero, List.drop_succ_cons, List.drop_zero]
          show wpStill _ _ (World.drew (wr.alloc _)) (fun a' => wpList _ _ _ _ a' (World.drew (wr.alloc _))) _ _
          rw [← hW1, ← hgd]
          clear hW1 hgd h0 h1 h2 h3 h4 hca hce hfe hxc hxf BP BE BA HO HB bpl bel bal
          have hca : W1.cell? ⟨ba, 0, none⟩ = some (.slice (some ⟨go, 0, none⟩) xs'.length co) := (blk_cell BA1.out 0).trans rfl
          have hce : W1.cell? ⟨be, 0, none⟩ = some (.int .i64 en') := (blk_cell BE1.out 0).trans rfl
          have hd0 : W1.cell? ⟨gd, 0, none⟩ = some (.int .i64 d.f0) := (blk_cell BD1.out 0).trans rfl
          have hd2 : W1.cell? ⟨gd, 2, none⟩ = some (.int .i64 d.f2) := (blk_cell BD1.out 2).trans rfl
          obtain ⟨hxc, hxf⟩ := Kd.R_celln 0 HO1.out (i : Int) (by omega) (by have := hx.out; omega)
          simp only [Int.toNat_natCast] at hxc hxf
          still_step
          still_step
          still_step
          still_step
          still_step
          refine wpStill_step (fun K hK => ?_)
          go_simp
          refine ⟨_, up_same _ _ _, hK _ ?_⟩
          clear hK K
          still_step
          refine wpStill_nil ?_
          generalize hu : upZ en' d.f0 = u at *
          have hu := Aside0.mk hu
          go_wp2_with fail
          obtain ⟨HP, hg⟩ := Kd.R_putg HO1.out (i : Int) u
          simp only [Int.toNat_natCast] at HP hg
          obtain ⟨W2, hW2⟩ : ∃ W2, W2 = (W1.setCell ⟨go, i, none⟩ (.int .i64 u)).drew := ⟨_, rfl⟩
          have BD2 : Aside0 (W2.heap[gd]? = some (.cells #[.int .i64 d.f0, .bool fx, .int .i64 d.f2, .slice A3 d.f3.length c3, .slice A4 d.f4.length c4] 55 (0, 0))) := ⟨by rw [hW2]; exact blk_drew (blk_grown BD1.out hg (Kd.R_ne HO1.out BD1.out (by decide)))⟩
          have BP2 : Aside0 (W2.heap[bp]? = some (.cells #[.slice A0 n0 c0, .slice (some ad) ds.length c1, .int .i64 e0] 25 (0, 0))) := ⟨by rw [hW2]; exact blk_drew (blk_grown BP1.out hg (Kd.R_ne HO1.out BP1.out (by decide)))⟩
          have BE2 : Aside0 (W2.heap[be]? = some (.cells #[.int .i64 en'] 3 (0, 0))) := ⟨by rw [hW2]; exact blk_drew (blk_grown BE1.out hg (fun h => hne (Option.some.inj h).symm))⟩
          have BA2 : Aside0 (W2.heap[ba]? = some (.cells #[.slice (some ⟨go, 0, none⟩) xs'.length co] 26 (0, 0))) := ⟨by rw [hW2]; exact blk_drew (blk_grown BA1.out hg (Kd.R_ne HO1.out BA1.out (by decide)))⟩
          have HO2 : Aside0 (Kd.R (Kd.int .i64) 3 W2 w0.heap.size (fun k_ => k_ ≠ be) (.slice (some ⟨go, 0, none⟩) xs'.length co) (xs'.set i u)) := ⟨by rw [hW2]; exact Kd.R_drew HP⟩
          have HB2 : Aside0 (Below w0.heap.size w0 W2) := ⟨by rw [hW2]; exact below_drew1 (below_set HB1.out GB.out)⟩
          refine wp_region_still_tail 7 (by kernel_rfl) (by kernel_rfl) ?_
          simp only [List.take_succ_cons, List.take_zero, List.drop_succ_cons, List.drop_zero]
          show wpStill _ _ (World.drew (W1.setCell _ _)) (fun a' => wpList _ _ _ _ a' (World.drew (W1.setCell _ _))) _ _
          rw [← hW2]
          clear hW2 hca hce hd0 hd2 hxc hxf HP hg HO1 BP1 BE1 BA1 BD1 HB1
          have hx2 : Aside0 ((xs'.set i u).length = ds.length) := ⟨by rw [List.length_set]; exact hx.out⟩
          have hca : W2.cell? ⟨ba, 0, none⟩ = some (.slice (some ⟨go, 0, none⟩) xs'.length co) := (blk_cell BA2.out 0).trans rfl
          have hce : W2.cell? ⟨be, 0, none⟩ = some (.int .i64 en') := (blk_cell BE2.out 0).trans rfl
          have hfe := blk_frozen BE2.out 0
          have hd2 : W2.cell? ⟨gd, 2, none⟩ = some (.int .i64 d.f2) := (blk_cell BD2.out 2).trans rfl
          obtain ⟨hxc, hxf⟩ := Kd.R_celln 0 HO2.out (i : Int) (by omega) (by omega)
          rw [show rdOf 0 (xs'.set i u) (i : Int) = u from by unfold rdOf; simp [List.getD_eq_getElem?_getD, hxl]] at hxc
          simp only [Int.toNat_natCast] at hxc hxf
          still_step
          still_step
          still_step
          still_step
          still_step
          still_step
          still_step
          refine wpStill_nil ?_
          go_wp2_with fail
          go_roundg k1
          case measure => omega
          case rel =>
            refine ⟨i + 1, xs'.set i u, wrap64 (u + d.f2), by go_num, by omega, ⟨by have := hk.out; omega⟩, ⟨by have h := hl.out; rw [hd.out, if_pos hy] at h; exact h⟩, hx2, ⟨below_set HB2.out ge.out⟩, ⟨blk_far BP2.out (fun h => ?_) _⟩, ⟨blk_put (cs := #[.int .i64 en']) BE2.out 0 _ rfl⟩, ⟨blk_far BA2.out (fun h => ?_) _⟩, ⟨?_⟩⟩
            · have q := BP2.out
              rw [show bp = be from h, BE2.out] at q
              simp at q
            · have q := BA2.out
              rw [show ba = be from h, BE2.out] at q
              simp at q
            · exact Kd.R_far (p := ⟨be, 0, none⟩) HO2.out (fun _ hk => hk) _
      · have hge : ds.length ≤ i := by omega
        have hd : layD fx (ds.drop i) i xs' en' = (xs', en') := by rw [List.drop_of_length_le hge]; rfl
        have hd := Aside0.mk (hl.out.symm.trans hd)
        clear hl
        go_wp2
        first | go_end0 | ((try simp only [Exit.inBlock, Exit.then]); refine bodyPost_ret (results_none rfl _ _ _) rfl ?_)
        exact ⟨rfl, HB.out, BP.out, by rw [hd.out]; exact BE.out, BA.out, by rw [hd.out]; exact HO.out⟩

set_option maxHeartbeats 4000000 in
set_option maxRecDepth 100000 in
theorem place_datas.calls (A0_0 : Option Addr) (c0_0 : Nat) (l0_0 : List S44) (A0_1 : Option Addr) (c0_1 : Nat) (l0_1 : List S55) (a0_2 : Int) (r1 : List Int) (r2 : Int) (r3 : Int) (w : World)
    (hr0_0 : Kd.C k44 w A0_0 l0_0.length l0_0) (hc0_0 : l0_0.length ≤ c0_0) (hr0_1 : Kd.C k55 w A0_1 l0_1.length l0_1) (hc0_1 : l0_1.length ≤ c0_1) (h : place_datas.f l0_0 l0_1 a0_2 = some (r1, r2, r3)) :
    Calls Try.prog 24 #[.agg #[.slice A0_0 l0_0.length c0_0, .slice A0_1 l0_1.length c0_1, .int .i64 a0_2]] w fun e w' => ∃ v0_ : Value, e = .returned (.tuple #[v0_, .int .i64 r2, .int .i64 r3]) ∧ Kd.R (Kd.int .i64) 3 w' w.heap.size (fun _ => True) v0_ r1 ∧ Below w.heap.size w w' := by
  have hlen : l0_1.length ≤ 35184372088832 := by
    unfold place_datas.f at h
    split at h
    · assumption
    · cases h
  unfold place_datas.f at h
  rw [if_pos hlen] at h
  have H := Aside0.mk (Option.some.inj h)
  clear h
  have hmk := print_make (P := Try.prog) 26 3 .i64 8 Try.underlying26 (by kernel_rfl) (by decide) l0_1.length (by omega)
  have hu25 := Try.underlying25
  go_enter Try.func24, Try.ntmps24
  go_wp2_with fail
  obtain ⟨bp, hbp⟩ : ∃ bp, bp = w.heap.size := ⟨_, rfl⟩
  obtain ⟨br, hbr⟩ : ∃ br, br = w.heap.size + 1 := ⟨_, rfl⟩
  obtain ⟨ba, hba⟩ : ∃ ba, ba = w.heap.size + 1 + 1 := ⟨_, rfl⟩
  obtain ⟨be, hbe⟩ : ∃ be, be = w.heap.size + 1 + 1 + 1 := ⟨_, rfl⟩
  obtain ⟨W0, hW0⟩ : ∃ W0, W0 = ((((w.alloc (.cells #[.slice A0_0 l0_0.length c0_0, .slice A0_1 l0_1.length c0_1, .int .i64 a0_2] 25)).alloc (.cells (madeCells #[.int .i64 0] l0_1.length) 3)).alloc (.cells #[.slice (some ⟨w.heap.size + 1, 0, none⟩) l0_1.length l0_1.length] 26)).alloc (.cells #[.int .i64 0] 3)) := ⟨_, rfl⟩
  have BP : Aside0 (W0.heap[bp]? = some (.cells #[.slice A0_0 l0_0.length c0_0, .slice A0_1 l0_1.length c0_1, .int .i64 a0_2] 25 (0, 0))) := ⟨by rw [hW0, hbp]; exact blk_alloc (blk_alloc (blk_alloc (blk_new _ _) _) _) _⟩
  have BE : Aside0 (W0.heap[be]? = some (.cells #[.int .i64 0] 3 (0, 0))) := ⟨by rw [hW0, hbe]; have q := blk_new (((w.alloc (.cells #[.slice A0_0 l0_0.length c0_0, .slice A0_1 l0_1.length c0_1, .int .i64 a0_2] 25)).alloc (.cells (madeCells #[.int .i64 0] l0_1.length) 3)).alloc (.cells #[.slice (some ⟨w.heap.size + 1, 0, none⟩) l0_1.length l0_1.length] 26)) (.cells #[.int .i64 0] 3 (0, 0)); simpa using q⟩
  have BA : Aside0 (W0.heap[ba]? = some (.cells #[.slice (some ⟨br, 0, none⟩) l0_1.length l0_1.length] 26 (0, 0))) := ⟨by rw [hW0, hba, hbr]; refine blk_alloc ?_ _; have q := blk_new ((w.alloc (.cells #[.slice A0_0 l0_0.length c0_0, .slice A0_1 l0_1.length c0_1, .int .i64 a0_2] 25)).alloc (.cells (madeCells #[.int .i64 0] l0_1.length) 3)) (.cells #[.slice (some ⟨w.heap.size + 1, 0, none⟩) l0_1.length l0_1.length] 26 (0, 0)); simpa using q⟩
  have HO : Aside0 (Kd.R (Kd.int .i64) 3 W0 w.heap.size (fun k_ => k_ ≠ be) (.slice (some ⟨br, 0, none⟩) l0_1.length l0_1.length) (List.replicate l0_1.length 0)) := ⟨by
    rw [hW0, hbr]
    refine Kd.R_alloc (Kd.R_alloc (Kd.R_of_own (by have q := own_made (w.alloc (.cells #[.slice A0_0 l0_0.length c0_0, .slice A0_1 l0_1.length c0_1, .int .i64 a0_2] 25)) w.heap.size 3 .i64 l0_1.length (by simp) (by omega); simp only [World.size_alloc] at q ⊢; rw [List.length_replicate]; exact q) ?_) _) _
    intro k hk
    have : w.heap.size + 1 = k := by simpa [Value.ownBlock] using hk
    omega⟩
  have HB : Aside0 (Below w.heap.size w W0) := ⟨by rw [hW0]; exact below_alloc (below_alloc (below_alloc (below_alloc (Below.refl _ _) _) _) _) _⟩
  have ge : Aside0 (w.heap.size ≤ be) := ⟨by omega⟩
  rw [← hW0, ← hbe, ← hba, ← hbr, ← hbp]
  clear hW0 hmk hbp hbr hba hbe
  refine (datas1_calls true bp be ba _ _ _ _ _ _ l0_1 0 (List.replicate l0_1.length 0) _ w W0 ⟨hr0_1⟩ HB ⟨by simp⟩ hlen BP BE BA ge HO).mono ?_
  clear HB BP BE BA HO
  rintro e w1 ⟨rfl, HB, BP, BE, BA, HO⟩
  have HB := Aside0.mk HB
  have HO := Aside0.mk HO
  have BP := Aside0.mk BP
  have BE := Aside0.mk BE
  have BA := Aside0.mk BA
  generalize hq : layD true l0_1 0 (List.replicate l0_1.length 0) 0 = q at *
  have hql : Aside0 (q.1.length = l0_1.length) := ⟨by rw [← hq, layD_len]; simp⟩
  have hq := Aside0.mk hq
  have hce : w1.cell? ⟨be, 0, none⟩ = some (.int .i64 q.2) := (blk_cell BE.out 0).trans rfl
  have hfe := blk_frozen BE.out 0
  go_wp2_with (first | (go_at_call 40; refine (up_same _ _ _).mono ?_; rintro e w' ⟨rfl, hw'⟩; subst w') | fail)
  clear hce hfe hq
  have HBn := Aside0.mk (below_set HB.out ge.out : Below w.heap.size w (w1.setCell ⟨be, 0, none⟩ (.int .i64 (upZ q.2 16))))
  have nbp : bp ≠ be := fun h => by
    have t := BP.out
    rw [h, BE.out] at t
    simp at t
  have nba : ba ≠ be := fun h => by
    have t := BA.out
    rw [h, BE.out] at t
    simp at t
  have BPn := Aside0.mk (blk_far BP.out nbp (.int .i64 (upZ q.2 16)) : (w1.setCell ⟨be, 0, none⟩ (.int .i64 (upZ q.2 16))).heap[bp]? = some (.cells #[.slice A0_0 l0_0.length c0_0, .slice A0_1 l0_1.length c0_1, .int .i64 a0_2] 25 (0, 0)))
  have BAn := Aside0.mk (blk_far BA.out nba (.int .i64 (upZ q.2 16)) : (w1.setCell ⟨be, 0, none⟩ (.int .i64 (upZ q.2 16))).heap[ba]? = some (.cells #[.slice (some ⟨br, 0, none⟩) l0_1.length l0_1.length] 26 (0, 0)))
  have BEn := Aside0.mk (blk_put (cs := #[.int .i64 q.2]) BE.out 0 (.int .i64 (upZ q.2 16)) rfl : (w1.setCell ⟨be, 0, none⟩ (.int .i64 (upZ q.2 16))).heap[be]? = some (.cells #[.int .i64 (upZ q.2 16)] 3 (0, 0)))
  have HOn : Aside0 (Kd.R (Kd.int .i64) 3 (w1.setCell ⟨be, 0, none⟩ (.int .i64 (upZ q.2 16))) w.heap.size (fun k_ => k_ ≠ be) (.slice (some ⟨br, 0, none⟩) l0_1.length l0_1.length) q.1) := ⟨Kd.R_far (p := ⟨be, 0, none⟩) HO.out (fun _ hk => hk) _⟩
  clear HB BP BE BA HO
  generalize w1.setCell ⟨be, 0, none⟩ (.int .i64 (upZ q.2 16)) = W1 at *
  refine (datas1_calls false bp be ba _ _ _ _ _ _ l0_1 (upZ q.2 16) q.1 _ w W1 ⟨hr0_1⟩ HBn hql hlen BPn BEn BAn ge HOn).mono ?_
  clear HBn BPn BEn BAn HOn
  rintro e w2 ⟨rfl, HB, BP, BE, BA, HO⟩
  have HB := Aside0.mk HB
  have HO := Aside0.mk HO
  have BE := Aside0.mk BE
  have BA := Aside0.mk BA
  have hE := Prod.mk.inj H.out
  have hE2 := Prod.mk.inj hE.2
  rw [hE.1] at HO
  rw [hE2.1] at BE
  have hce : w2.cell? ⟨be, 0, none⟩ = some (.int .i64 r2) := (blk_cell BE.out 0).trans rfl
  have hca : w2.cell? ⟨ba, 0, none⟩ = some (.slice (some ⟨br, 0, none⟩) l0_1.length l0_1.length) := (blk_cell BA.out 0).trans rfl
  rw [hE2.2]
  clear hE hE2 H
  go_wp2_with fail
  go_quiet (fail)
  go_wp2_with fail
  go_ret3
  exact ⟨_, rfl, Kd.R_drewN (Kd.R_mono HO.out (fun _ _ => trivial)) _, pw_below_drewN HB.out _⟩
end Go.Proofs.Ytdnfofhfllnhiaa.Q
