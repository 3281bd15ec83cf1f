/- The reference's Save: its contract. Own work; a template, printed by gen_step.py. -/
import Derived.Test.YtcagccodmmcnfaaPureStepB
import Derived.Test.YtcagccodmmcnfaaMxA
import Derived.Test.YtcagccodmmcnfaaMxF
import Derived.Test.YtcagccodmmcnfaaHrg
import Derived.Test.YtcagccodmmcnfaaQ55
import Derived.Test.YtcagccodmmcnfaaQB
namespace Go.Proofs.Ytcagccodmmcnfaa.Cpu
open Go.RowKit Go.Proofs.YtcagccodmmcnfaaW.PrintWords Go.Proofs.YtcagccodmmcnfaaW.PrintLast Go.Proofs.YtcagccodmmcnfaaW.PrintMore Go.Proofs.Ytcagccodmmcnfaa.Hp Go.Proofs.Ytcagccodmmcnfaa.Q
set_option linter.unusedVariables false
set_option linter.unusedSimpArgs false
attribute [local go_sem] add_any
def LoadAt (w : World) (wr : Int) (A : Option Addr) (n c : Nat) (at_ : Int) (wide : Bool) (r : Int) (ok : Bool) : Prop := ∀ W', Below w.heap.size w W' → Calls Try.prog 25 #[.agg #[.int .i64 wr, .slice A n c], .int .u32 at_, .bool wide] W' fun e w' => e = .returned (.tuple #[.int .u32 r, .bool ok]) ∧ Below W'.heap.size W' w'
theorem loadAt {w : World} {wr : Int} {A : Option Addr} {n c : Nat} {l : List Int} {a : Int} {wide : Bool} {r : Int} {ok : Bool} (h : RdS .u8 w A n c l) (ha : U32 a) (hl : l.length ≤ 1099511627776) (hb : ∀ x ∈ l, B8 x) (hr : (if okF l.length a wide = true then (loadW l (a - 65536).toNat wide, true) else (0, false)) = (r, ok)) : LoadAt w wr A n c a wide r ok := fun W' hW => by
  obtain ⟨h1, h2, h3, h4⟩ := h
  subst h1
  exact spliceref05_Load.calls 10 wr A c l a wide r ok W' (Kd.C_below h4 hW) h2 (by rw [rload_f wr l a wide ha hl hb, hr])
theorem hs_allocK {P : Program} {ops : Array Oper} {o : Oper} {a : Act} {K : Act → World → Prop} {Q : Exit → Act → World → Prop} {E : Prop} {w0 W : World} {L : List (Nat × Array Value × TypeId)} (H : Hp w0 W L) (hgd : o.guard = none) {t : TypeId} (ho : o.op = .alloc t) {z : Value} (hz : ∀ w, (zeroValue t).run P w = .ok z w)
    (h : ∀ g W', Hp w0 W' ((g, z.cells, t) :: L) → K (a.put o.dst (.pointer (some ⟨g, 0, none⟩))) W') : if Region.wanted o (yielded ops a.tmps) = true then Oper.wp P o a W K Q else E := by
  rw [if_pos (by simp [Region.wanted, hgd])]
  have hrun : (execOp a.eval o).run P W = .ok (.value (.pointer (some ⟨W.heap.size, 0, none⟩))) (W.alloc (.cells z.cells t (0, 0))) := by
    unfold execOp
    simp [ho, Instr.alloc, hz, newVar, newRow, Sem.run_bind]
  unfold Oper.wp
  rw [hrun]
  exact h _ _ (H.alloc z.cells t)
theorem own_put6 {k : IntKind} {e : TypeId} {g n cap p : Nat} {cur : Array Value} {l : List Int} {v : Int} (h : Own k e g cur n cap l) (hp : p < n) : Own k e g (putSeg cur p (Value.int k v).cells.toList) n cap (l.set p v) := by
  have hs := h.size
  have hle := h.le
  refine ⟨?_, by rw [List.length_set]; exact h.len, h.le, ?_, h.max⟩
  · apply List.ext_getElem?
    intro i
    have ht := congrArg (fun q => q[i]?) h.take
    simp only [List.getElem?_take] at ht
    simp only [putSeg, Value.cells, List.getElem?_take, List.getElem?_append, List.length_append, List.length_take, Array.length_toList, List.length_cons, List.length_nil, List.getElem?_drop]
    simp only [nums, List.getElem?_map, List.getElem?_set] at ht ⊢
    have hl := h.len
    rw [Nat.min_eq_left (by omega : p ≤ cur.size)]
    rcases Nat.lt_trichotomy i p with hi | hi | hi
    · rw [if_pos (by omega : i < n)] at ht
      rw [if_pos (by omega : i < n), if_pos (by omega), if_pos hi, if_pos hi, if_neg (by omega : ¬ p = i)]
      exact ht
    · subst hi
      rw [if_pos hp, if_pos (by omega), if_neg (by omega), if_pos rfl, if_pos (by omega), Nat.sub_self]
      rfl
    · rw [if_neg (by omega : ¬ i < p + (0 + 1)), if_neg (by omega : ¬ p = i), show p + (0 + 1) + (i - (p + (0 + 1))) = i by omega]
      exact ht
  · simp [putSeg, Value.cells]
    omega
theorem splice_set (l : List Int) (p i : Nat) (xs : List Int) (hf : p + i < l.length) (hi : i < xs.length) : (splice l p (xs.take i)).set (p + i) (rd xs i) = splice l p (xs.take (i + 1)) := by
  apply List.ext_getElem?
  intro j
  unfold splice rd
  rw [Int.toNat_natCast, List.getD_eq_getElem?_getD]
  simp only [List.getElem?_set, List.getElem?_append, List.getElem?_take, List.getElem?_drop, List.length_take, List.length_append, List.length_drop]
  rw [Nat.min_eq_left (by omega : p ≤ l.length), Nat.min_eq_left (by omega : i ≤ xs.length), Nat.min_eq_left (by omega : i + 1 ≤ xs.length)]
  rcases Nat.lt_trichotomy j (p + i) with h | h | h
  · rw [if_neg (by omega : ¬ p + i = j)]
    by_cases hp : j < p
    · simp [hp]
    · simp only [hp, if_false]
      rw [if_pos (by omega : j - p < i), if_pos (by omega : j - p < i), if_pos (by omega : j - p < i + 1), if_pos (by omega : j - p < i + 1)]
  · subst h
    rw [if_pos rfl, if_pos (by omega), if_neg (by omega : ¬ p + i < p), if_pos (by omega : p + i - p < i + 1), if_pos (by omega : p + i - p < i + 1), show p + i - p = i by omega, List.getElem?_eq_getElem hi]
    rfl
  · rw [if_neg (by omega : ¬ p + i = j), if_neg (by omega : ¬ j < p), if_neg (by omega : ¬ j < p), if_neg (by omega : ¬ j - p < i), if_neg (by omega : ¬ j - p < i + 1)]
    congr 1
    omega
theorem put_byte (v : Int) (hv : U32 v) : spliceref01_Put.f v = some (byteF v) := by
  unfold U32 at hv
  have e1 : wrap64 v = v := by unfold wrap64; omega
  have e2 : ∀ k : Int, 0 < k → wrap64 (Int.tdiv v k) = v / k := fun k hk => by
    rw [Int.tdiv_eq_ediv_of_nonneg hv.1]
    have h1 : 0 ≤ v / k := Int.ediv_nonneg hv.1 (by omega)
    have h2 : v / k ≤ v := Int.ediv_le_self _ hv.1
    generalize v / k = y at *
    clear e1
    unfold wrap64
    omega
  have e3 : ∀ y : Int, 0 ≤ y → Int.tmod y 256 = y % 256 := fun y hy => Int.tmod_eq_emod_of_nonneg hy
  unfold spliceref01_Put.f byteF
  have d1 : 0 ≤ v / 256 := Int.ediv_nonneg hv.1 (by decide)
  have d2 : 0 ≤ v / 65536 := Int.ediv_nonneg hv.1 (by decide)
  rw [e1, e2 256 (by decide), e2 65536 (by decide), e2 16777216 (by decide), e3 v hv.1, e3 (v / 256) d1, e3 (v / 65536) d2]
  have q : ∀ y : Int, y % 256 % 256 = y % 256 := fun y => by omega
  rw [q, q, q]
theorem putR_c (v : Int) (w : World) (hv : U32 v) : Calls Try.prog 41 #[.int .u32 v] w fun e w' => ∃ u, e = .returned u ∧ w'.ownsRow w.heap.size 5 1 u 4 (nums .u8 (byteF v)) ∧ Below w.heap.size w w' := by
  refine (spliceref01_Put.calls v _ w (put_byte v hv)).mono ?_
  rintro e w' ⟨u, rfl, hR, hb⟩
  exact ⟨u, rfl, Kd.own_of_R hR, hb⟩
theorem byte_at {curP : Array Value} {v : Int} (ht : curP.toList.take 4 = nums .u8 (byteF v)) (i : Nat) (hi : i < 4) : curP[i]? = some (.int .u8 (rd (byteF v) i)) := by
  have h := congrArg (fun q => q[i]?) ht
  simp only [List.getElem?_take, if_pos hi] at h
  rw [← Array.getElem?_toList, h]
  unfold nums rd
  rw [List.getElem?_map, Int.toNat_natCast, List.getD_eq_getElem?_getD]
  have hl : i < (byteF v).length := hi
  rw [List.getElem?_eq_getElem hl]
  rfl
set_option maxHeartbeats 40000000 in
set_option maxRecDepth 100000 in
theorem rsave_no (wr : Int) (A : Option Addr) (n c : Nat) (a v : Int) (wide : Bool) (r : Int) (w : World) (hld : Aside0 (LoadAt w wr A n c a wide r false)) :
    Calls Try.prog 26 #[.agg #[.int .i64 wr, .slice A n c], .int .u32 a, .int .u32 v, .bool wide] w fun e w' => e = .returned (.tuple #[.agg #[.int .i64 wr, .slice A n c], .bool false]) ∧ Below w.heap.size w w' := by
  have H := Hp.nil w
  go_enter Try.func26, Try.ntmps26
  go_wp2_with ((first | ((with_reducible refine gate_guardG ?_); refine hp_guardLG rfl rfl ?_; (with_reducible first | refine go_tt ?_ | refine go_ff ?_ | refine go_tf ?_ | refine go_ft ?_)) | ((with_reducible refine gate_dst (N := 4) rfl ?_); refine hp_box H rfl rfl rfl ?_; intro gm W_ H_; clear H; have H := H_; clear H_) | ((with_reducible refine gate_dst (N := 8) rfl ?_); refine hp_alloc H rfl rfl (fun w_ => by go_simp; rfl) ?_; intro gr W_ H_; clear H; have H := H_; clear H_) | ((with_reducible refine gate_dst (N := 17) rfl ?_); ((with_reducible refine gate_loadG ?_); (first | (refine hp_wholeG H rfl (ty := 35) rfl rfl (by repeat (first | exact .head _ | refine .tail _ ?_)) (by kernel_rfl) (by kernel_rfl) ?_)))) | ((with_reducible refine gate_dst (N := 20) rfl ?_); ((with_reducible refine gate_fnG ?_); refine hp_goesG H rfl (f := 25) rfl Try.func25 (by kernel_rfl) rfl (hld.out _ H.below) (by (try simp only [List.map_toArray, List.map_cons, List.map_nil]); first | done | rfl) ?_; rintro e_ W_ ⟨rfl, hb_⟩; refine ⟨_, rfl, hb_, fun H_ => ?_⟩)) | ((with_reducible refine gate_dst (N := 31) rfl ?_); ((with_reducible refine gate_loadG ?_); (refine hp_loadG H rfl rfl rfl (by repeat (first | exact .head _ | refine .tail _ ?_)) (by kernel_rfl) (by first | exact rfl) ?_))) | ((with_reducible refine gate_dst (N := 34) rfl ?_); ((with_reducible refine gate_loadG ?_); (first | (refine hp_wholeG H rfl (ty := 35) rfl rfl (by repeat (first | exact .head _ | refine .tail _ ?_)) (by kernel_rfl) (by kernel_rfl) ?_)))) | ((with_reducible refine gate_storeG ?_); ((first | (refine hp_store0G H rfl rfl rfl rfl rfl (by kernel_rfl) (by first | rfl | exact fit_.out) (by rfl) (by first | exact putM0 _ _ _ _) ?_) | (refine hp_store1G H rfl rfl rfl rfl rfl (by kernel_rfl) (by first | rfl | exact fit_.out) (by rfl) (by first | exact putM0 _ _ _ _) ?_)); intro W_ H_))); (try (clear H; have H := H_; clear H_)); (try simp only [Act.put, List.setIfInBounds_toArray, List.set_cons_zero, List.set_cons_succ]))
  exact bodyPost_ret (hp_results2 rfl _ _ _ 35 _ (.bool false) rfl rfl (H.heap (.head _)) (by kernel_rfl) (by kernel_rfl)) rfl ⟨rfl, H.below⟩
set_option maxHeartbeats 40000000 in
set_option maxRecDepth 100000 in
theorem rsave_low (wr : Int) (A : Option Addr) (n c : Nat) (p : Nat) (v : Int) (wide : Bool) (r : Int) (w : World) (hp : p ≤ 4294901759) (hw : (p : Int) < wr) (hld : Aside0 (LoadAt w wr A n c (65536 + (p : Int)) wide r true)) :
    Calls Try.prog 26 #[.agg #[.int .i64 wr, .slice A n c], .int .u32 (65536 + (p : Int)), .int .u32 v, .bool wide] w fun e w' => e = .returned (.tuple #[.agg #[.int .i64 wr, .slice A n c], .bool false]) ∧ Below w.heap.size w w' := by
  have H := Hp.nil w
  have e1 : wrap64 (65536 + (p : Int)) = 65536 + p := by unfold wrap64; omega
  have e2 : wrap64 (65536 + (p : Int) - 65536) = p := by unfold wrap64; omega
  go_enter Try.func26, Try.ntmps26
  go_wp2_with ((first | ((with_reducible refine gate_guardG ?_); refine hp_guardLG rfl rfl ?_; (with_reducible first | refine go_tt ?_ | refine go_ff ?_ | refine go_tf ?_ | refine go_ft ?_)) | ((with_reducible refine gate_dst (N := 4) rfl ?_); refine hp_box H rfl rfl rfl ?_; intro gm W_ H_; clear H; have H := H_; clear H_) | ((with_reducible refine gate_dst (N := 8) rfl ?_); refine hp_alloc H rfl rfl (fun w_ => by go_simp; rfl) ?_; intro gr W_ H_; clear H; have H := H_; clear H_) | ((with_reducible refine gate_dst (N := 17) rfl ?_); ((with_reducible refine gate_loadG ?_); (first | (refine hp_wholeG H rfl (ty := 35) rfl rfl (by repeat (first | exact .head _ | refine .tail _ ?_)) (by kernel_rfl) (by kernel_rfl) ?_)))) | ((with_reducible refine gate_dst (N := 20) rfl ?_); ((with_reducible refine gate_fnG ?_); refine hp_goesG H rfl (f := 25) rfl Try.func25 (by kernel_rfl) rfl (hld.out _ H.below) (by (try simp only [List.map_toArray, List.map_cons, List.map_nil]); first | done | rfl) ?_; rintro e_ W_ ⟨rfl, hb_⟩; refine ⟨_, rfl, hb_, fun H_ => ?_⟩)) | ((with_reducible refine gate_dst (N := 31) rfl ?_); ((with_reducible refine gate_loadG ?_); (refine hp_loadG H rfl rfl rfl (by repeat (first | exact .head _ | refine .tail _ ?_)) (by kernel_rfl) (by first | exact rfl) ?_))) | ((with_reducible refine gate_dst (N := 34) rfl ?_); ((with_reducible refine gate_loadG ?_); (first | (refine hp_wholeG H rfl (ty := 35) rfl rfl (by repeat (first | exact .head _ | refine .tail _ ?_)) (by kernel_rfl) (by kernel_rfl) ?_)))) | ((with_reducible refine gate_storeG ?_); ((first | (refine hp_store0G H rfl rfl rfl rfl rfl (by kernel_rfl) (by first | rfl | exact fit_.out) (by rfl) (by first | exact putM0 _ _ _ _) ?_) | (refine hp_store1G H rfl rfl rfl rfl rfl (by kernel_rfl) (by first | rfl | exact fit_.out) (by rfl) (by first | exact putM0 _ _ _ _) ?_)); intro W_ H_))); (try (clear H; have H := H_; clear H_)); (try simp only [Act.put, List.setIfInBounds_toArray, List.set_cons_zero, List.set_cons_succ]))
  exact bodyPost_ret (hp_results2 rfl _ _ _ 35 _ (.bool false) rfl rfl (H.heap (.head _)) (by kernel_rfl) (by kernel_rfl)) rfl ⟨rfl, H.below⟩
set_option maxHeartbeats 40000000 in
set_option maxRecDepth 100000 in
theorem rsave_yes (wm : Int) (A : Option Addr) (n c : Nat) (l : List Int) (p : Nat) (v : Int) (wide : Bool) (r : Int) (w : World) (h : Aside0 (RdS .u8 w A n c l)) (hl : Aside0 (l.length ≤ 1099511627776)) (hp : p ≤ 4294901759) (hw : ¬ (p : Int) < wm) (hfit : Aside0 (p + (sizeF wide).toNat ≤ n)) (hv : U32 v) (hld : Aside0 (LoadAt w wm A n c (65536 + (p : Int)) wide r true)) :
    Calls Try.prog 26 #[.agg #[.int .i64 wm, .slice A n c], .int .u32 (65536 + (p : Int)), .int .u32 v, .bool wide] w (SaveIs w wm n (saveL l p v wide)) := by
  have H := Hp.nil w
  have e1 : wrap64 (65536 + (p : Int)) = 65536 + p := by unfold wrap64; omega
  have e2 : wrap64 (65536 + (p : Int) - 65536) = p := by unfold wrap64; omega
  go_enter Try.func26, Try.ntmps26
  go_upto_region 5 with (first | ((with_reducible refine gate_guardG ?_); refine hp_guardLG rfl rfl ?_; (with_reducible first | refine go_tt ?_ | refine go_ff ?_ | refine go_tf ?_ | refine go_ft ?_); (try simp only [Act.put, List.setIfInBounds_toArray, List.set_cons_zero, List.set_cons_succ])) | ((with_reducible refine gate_dst (N := 4) rfl ?_); refine hp_box H rfl rfl rfl ?_; intro gm W_ H_; clear H; have H := H_; clear H_) | ((with_reducible refine gate_dst (N := 8) rfl ?_); refine hp_alloc H rfl rfl (fun w_ => by go_simp; rfl) ?_; intro gr W_ H_; clear H; have H := H_; clear H_) | ((with_reducible refine gate_dst (N := 17) rfl ?_); ((with_reducible refine gate_loadG ?_); (first | (refine hp_wholeG H rfl (ty := 35) rfl rfl (by repeat (first | exact .head _ | refine .tail _ ?_)) (by kernel_rfl) (by kernel_rfl) ?_)); (try simp only [Act.put, List.setIfInBounds_toArray, List.set_cons_zero, List.set_cons_succ]))) | ((with_reducible refine gate_dst (N := 20) rfl ?_); ((with_reducible refine gate_fnG ?_); refine hp_goesG H rfl (f := 25) rfl Try.func25 (by kernel_rfl) rfl (hld.out _ H.below) (by (try simp only [List.map_toArray, List.map_cons, List.map_nil]); first | done | rfl) ?_; rintro e_ W_ ⟨rfl, hb_⟩; refine ⟨_, rfl, hb_, fun H_ => ?_⟩; clear H; have H := H_; clear H_; (try simp only [Act.put, List.setIfInBounds_toArray, List.set_cons_zero, List.set_cons_succ]))) | ((with_reducible refine gate_dst (N := 31) rfl ?_); ((with_reducible refine gate_loadG ?_); (refine hp_loadG H rfl rfl rfl (by repeat (first | exact .head _ | refine .tail _ ?_)) (by kernel_rfl) (by first | exact rfl) ?_); (try simp only [Act.put, List.setIfInBounds_toArray, List.set_cons_zero, List.set_cons_succ]))) | ((with_reducible refine gate_dst (N := 34) rfl ?_); ((with_reducible refine gate_loadG ?_); (first | (refine hp_wholeG H rfl (ty := 35) rfl rfl (by repeat (first | exact .head _ | refine .tail _ ?_)) (by kernel_rfl) (by kernel_rfl) ?_)); (try simp only [Act.put, List.setIfInBounds_toArray, List.set_cons_zero, List.set_cons_succ]))) | ((with_reducible refine gate_storeG ?_); ((first | (refine hp_store0G H rfl rfl rfl rfl rfl (by kernel_rfl) (by first | rfl | exact fit_.out) (by rfl) (by first | exact putM0 _ _ _ _) ?_) | (refine hp_store1G H rfl rfl rfl rfl rfl (by kernel_rfl) (by first | rfl | exact fit_.out) (by rfl) (by first | exact putM0 _ _ _ _) ?_)); intro W_ H_; clear H; have H := H_; clear H_); (try simp only [Act.put, List.setIfInBounds_toArray, List.set_cons_zero, List.set_cons_succ])))
  go_cut [12, 13] (fun v12 v13 wc => ∃ (gD : Nat) (curD : Array Value) (capD g3 : Nat), v12 = .int .i64 (p : Int) ∧ v13 = .pointer (some ⟨g3, 0, none⟩) ∧ Aside0 (Own .u8 5 gD curD n capD l) ∧ Hp w wc [(g3, #[.int .i64 wm, .slice (some ⟨gD, 0, none⟩) n capD], 35), (gD, curD, 5), (gm, #[.int .i64 wm, .slice A n c], 35), (gr, #[.int .i64 0, .slice none 0 0], 35)])
  case first =>
    have H := H.drew.perm (List.Perm.swap _ _ _)
    refine wp_region_held_drew (S := fun W' => ∃ L, Hp w W' ((gm, #[.int .i64 wm, .slice A n c], 35) :: L)) (by kernel_rfl) ⟨_, H⟩ (fun hHeld => ?_)
    change wpAnyH _ _ _ _ _ 9 (Array.replicate 9 false) _ _
    generalize World.drew _ = W1 at *
    (refine hk_take (i := 0) (v := ?_) rfl (by kernel_rfl) (by kernel_rfl) (by kernel_rfl) (fun _ _ _ h => h) (Or.inl ⟨by rfl, ?_⟩) hHeld ?_; rotate_left 1; (intro w_ hSw_; go_simp; with_reducible rfl); (try simp only [Act.put, List.setIfInBounds_toArray, List.set_cons_zero, List.set_cons_succ]))
    (refine hk_take (i := 1) rfl (by kernel_rfl) (by kernel_rfl) (by kernel_rfl) (fun _ _ _ h => h) (yl_load rfl rfl rfl (fun w_ ⟨_, H_⟩ => H_.heap (.head _)) (by kernel_rfl) rfl) hHeld ?_; (try simp only [Act.put, List.setIfInBounds_toArray, List.set_cons_zero, List.set_cons_succ]))
    (refine hk_take (i := 3) (v := ?_) rfl (by kernel_rfl) (by kernel_rfl) (by kernel_rfl) (fun _ _ _ h => h) (Or.inl ⟨by rfl, ?_⟩) hHeld ?_; rotate_left 1; (intro w_ hSw_; go_simp; with_reducible rfl); (try simp only [Act.put, List.setIfInBounds_toArray, List.set_cons_zero, List.set_cons_succ]))
    (refine hk_take (i := 4) rfl (by kernel_rfl) (by kernel_rfl) (by kernel_rfl) (fun _ _ _ h => h) (yl_load rfl rfl rfl (fun w_ ⟨_, H_⟩ => H_.heap (.head _)) (by kernel_rfl) rfl) hHeld ?_; (try simp only [Act.put, List.setIfInBounds_toArray, List.set_cons_zero, List.set_cons_succ]))
    clear hHeld
    refine hk_op2 (i := 2) (j := 7) rfl rfl (by kernel_rfl) (fun K hK => ?_) (fun K hK => ?_)
    · refine hs_lit H rfl rfl (by first | (go_simp; done) | (go_simp; rfl)) ?_
      intro gL W_ H1
      refine hK.out _ _ ⟨_, H1.perm (List.Perm.swap _ _ _)⟩ (fun hHeld => ?_)
      clear hK K
      (try simp only [Act.put, List.setIfInBounds_toArray, List.set_cons_zero, List.set_cons_succ])
      refine hk_op2 (i := 5) (j := 7) rfl rfl (by kernel_rfl) (fun K hK => ?_) (fun K hK => ?_)
      · refine hs_app H1 rfl rfl Try.underlying23 (k := .u8) 1 (by kernel_rfl) (by decide) rfl (List.Perm.refl _) (lit_own _ _ _) rfl (h.out.below H1.below) (by have := hl.out; have := h.out.1; omega) (Nat.zero_add _) (List.nil_append _) ?_
        intro gD curD capD W_ hoD H2
        refine hK.out _ _ ⟨_, H2.perm (List.Perm.swap _ _ _)⟩ (fun hHeld => ?_)
        clear hK K
        (try simp only [Act.put, List.setIfInBounds_toArray, List.set_cons_zero, List.set_cons_succ])
        (refine hk_take (i := 6) (v := ?_) rfl (by kernel_rfl) (by kernel_rfl) (by kernel_rfl) (fun _ _ _ h => h) (Or.inl ⟨by rfl, ?_⟩) hHeld ?_; rotate_left 1; (intro w_ hSw_; go_simp; with_reducible rfl); (try simp only [Act.put, List.setIfInBounds_toArray, List.set_cons_zero, List.set_cons_succ]))
        (refine hk_op (i := 7) rfl (by kernel_rfl) (fun K hK => ?_))
        refine hs_allocK H2 rfl rfl (fun w_ => by go_simp; rfl) ?_
        intro g3 W_ H3
        refine hK.out _ _ ⟨_, H3.perm (((List.Perm.swap _ _ _).cons _).trans (List.Perm.swap _ _ _))⟩ (fun hHeld => ?_)
        clear hK K
        (try simp only [Act.put, List.setIfInBounds_toArray, List.set_cons_zero, List.set_cons_succ])
        (refine hk_op (i := 8) rfl (by kernel_rfl) (fun K hK => ?_))
        refine hs_store H3 rfl rfl rfl rfl (n := 0) rfl rfl (by kernel_rfl) (by rfl) (by rfl) (putM0 _ _ _ _) rfl ?_
        intro W_ H9
        refine hK.out _ _ ⟨_, H9.perm (((List.Perm.swap _ _ _).cons _).trans (List.Perm.swap _ _ _))⟩ (fun hHeld => ?_)
        clear hK K
        (try simp only [Act.put, List.setIfInBounds_toArray, List.set_cons_zero, List.set_cons_succ])
        (refine wpAnyH_done (by kernel_rfl) ?_ _)
        go_wp2_with fail
        go_meet
        case rel => exact ⟨gD, curD, capD, g3, congrArg (Value.int .i64) (by omega), rfl, ⟨hoD⟩, H9⟩
      · refine hs_allocK H1 rfl rfl (fun w_ => by go_simp; rfl) ?_
        intro g3 W_ H2
        refine hK.out _ _ ⟨_, H2.perm (((List.Perm.swap _ _ _).cons _).trans (List.Perm.swap _ _ _))⟩ (fun hHeld => ?_)
        clear hK K
        (try simp only [Act.put, List.setIfInBounds_toArray, List.set_cons_zero, List.set_cons_succ])
        (refine hk_op (i := 5) rfl (by kernel_rfl) (fun K hK => ?_))
        refine hs_app H2 rfl rfl Try.underlying23 (k := .u8) 1 (by kernel_rfl) (by decide) rfl (List.Perm.swap _ _ _) (lit_own _ _ _) rfl (h.out.below H2.below) (by have := hl.out; have := h.out.1; omega) (Nat.zero_add _) (List.nil_append _) ?_
        intro gD curD capD W_ hoD H3
        refine hK.out _ _ ⟨_, H3.perm (((List.Perm.swap _ _ _).cons _).trans (List.Perm.swap _ _ _))⟩ (fun hHeld => ?_)
        clear hK K
        (try simp only [Act.put, List.setIfInBounds_toArray, List.set_cons_zero, List.set_cons_succ])
        (refine hk_take (i := 6) (v := ?_) rfl (by kernel_rfl) (by kernel_rfl) (by kernel_rfl) (fun _ _ _ h => h) (Or.inl ⟨by rfl, ?_⟩) hHeld ?_; rotate_left 1; (intro w_ hSw_; go_simp; with_reducible rfl); (try simp only [Act.put, List.setIfInBounds_toArray, List.set_cons_zero, List.set_cons_succ]))
        (refine hk_op (i := 8) rfl (by kernel_rfl) (fun K hK => ?_))
        refine hs_store H3 rfl rfl rfl rfl (n := 1) rfl rfl (by kernel_rfl) (by rfl) (by rfl) (putM0 _ _ _ _) rfl ?_
        intro W_ H9
        refine hK.out _ _ ⟨_, H9.perm (((List.Perm.swap _ _ _).cons _).trans (List.Perm.swap _ _ _))⟩ (fun hHeld => ?_)
        clear hK K
        (try simp only [Act.put, List.setIfInBounds_toArray, List.set_cons_zero, List.set_cons_succ])
        (refine wpAnyH_done (by kernel_rfl) ?_ _)
        go_wp2_with fail
        go_meet
        case rel => exact ⟨gD, curD, capD, g3, congrArg (Value.int .i64) (by omega), rfl, ⟨hoD⟩, H9.perm (List.Perm.swap _ _ _)⟩
    · refine hs_allocK H rfl rfl (fun w_ => by go_simp; rfl) ?_
      intro g3 W_ H1
      refine hK.out _ _ ⟨_, H1.perm (List.Perm.swap _ _ _)⟩ (fun hHeld => ?_)
      clear hK K
      (try simp only [Act.put, List.setIfInBounds_toArray, List.set_cons_zero, List.set_cons_succ])
      (refine hk_op (i := 2) rfl (by kernel_rfl) (fun K hK => ?_))
      refine hs_lit H1 rfl rfl (by first | (go_simp; done) | (go_simp; rfl)) ?_
      intro gL W_ H2
      refine hK.out _ _ ⟨_, H2.perm (((List.Perm.swap _ _ _).cons _).trans (List.Perm.swap _ _ _))⟩ (fun hHeld => ?_)
      clear hK K
      (try simp only [Act.put, List.setIfInBounds_toArray, List.set_cons_zero, List.set_cons_succ])
      (refine hk_op (i := 5) rfl (by kernel_rfl) (fun K hK => ?_))
      refine hs_app H2 rfl rfl Try.underlying23 (k := .u8) 1 (by kernel_rfl) (by decide) rfl (List.Perm.refl _) (lit_own _ _ _) rfl (h.out.below H2.below) (by have := hl.out; have := h.out.1; omega) (Nat.zero_add _) (List.nil_append _) ?_
      intro gD curD capD W_ hoD H3
      refine hK.out _ _ ⟨_, H3.perm (((List.Perm.swap _ _ _).cons _).trans (List.Perm.swap _ _ _))⟩ (fun hHeld => ?_)
      clear hK K
      (try simp only [Act.put, List.setIfInBounds_toArray, List.set_cons_zero, List.set_cons_succ])
      (refine hk_take (i := 6) (v := ?_) rfl (by kernel_rfl) (by kernel_rfl) (by kernel_rfl) (fun _ _ _ h => h) (Or.inl ⟨by rfl, ?_⟩) hHeld ?_; rotate_left 1; (intro w_ hSw_; go_simp; with_reducible rfl); (try simp only [Act.put, List.setIfInBounds_toArray, List.set_cons_zero, List.set_cons_succ]))
      (refine hk_op (i := 8) rfl (by kernel_rfl) (fun K hK => ?_))
      refine hs_store H3 rfl rfl rfl rfl (n := 1) rfl rfl (by kernel_rfl) (by rfl) (by rfl) (putM0 _ _ _ _) rfl ?_
      intro W_ H9
      refine hK.out _ _ ⟨_, H9.perm (((List.Perm.swap _ _ _).cons _).trans (List.Perm.swap _ _ _))⟩ (fun hHeld => ?_)
      clear hK K
      (try simp only [Act.put, List.setIfInBounds_toArray, List.set_cons_zero, List.set_cons_succ])
      (refine wpAnyH_done (by kernel_rfl) ?_ _)
      go_wp2_with fail
      go_meet
      case rel => exact ⟨gD, curD, capD, g3, congrArg (Value.int .i64) (by omega), rfl, ⟨hoD⟩, H9.perm (List.Perm.swap _ _ _)⟩
  case rest =>
    clear H
    obtain ⟨gD, curD, capD, g3, rfl, rfl, hoD, H⟩ := hcut
    have hnn : Aside0 (n = l.length) := ⟨h.out.1⟩
    have hz1 : Aside0 (1 ≤ (sizeF wide).toNat) := ⟨by cases wide <;> decide⟩
    have hpn : p < n := by have := hfit.out; have := hz1.out; omega
    have hpn2 : (p : Int) < (n : Int) := by omega
    have hB := Aside0.mk (fun (i : Nat) (hi : i < 4) (curP : Array Value) (ht : curP.toList.take 4 = nums .u8 (byteF v)) => byte_at ht i hi)
    go_wp2_with ((first | ((with_reducible refine gate_guardG ?_); refine hp_guardLG rfl rfl ?_; (with_reducible first | refine go_tt ?_ | refine go_ff ?_ | refine go_tf ?_ | refine go_ft ?_)) | ((with_reducible refine gate_fnG ?_); refine hp_goesRG H rfl (f := 41) rfl Try.func41 (by kernel_rfl) rfl (putR_c v _ hv) (by (try simp only [List.map_toArray, List.map_cons, List.map_nil]); first | done | rfl) (fun W_ hl_ _ _ => absurd hl_ (by simp [byteF])) ?_; intro gP curP capP W_ htP hnP hcP hmP H_; clear H hnP hcP hmP; have H := H_; clear H_; replace htP := Aside0.mk htP)); (try simp only [Act.put, List.setIfInBounds_toArray, List.set_cons_zero, List.set_cons_succ]))
    have hP0 := Aside0.mk (hB.out 0 (by decide) curP htP.out)
    have LST : List (Nat × Array Value × TypeId) := []
    clear LST
    refine wp_region_held_drew (S := fun W' => ∃ L2, Hp w W' ((gP, curP, 5) :: (g3, #[.int .i64 wm, .slice (some ⟨gD, 0, none⟩) n capD], 35) :: L2)) (by kernel_rfl) ⟨_, H.drew⟩ (fun hHeld => ?_)
    have H := H.drew
    change wpAnyH _ _ _ _ _ 8 (Array.replicate 8 false) _ _
    generalize World.drew _ = W1 at *
    (refine hk_take (i := 0) (v := ?_) rfl (by kernel_rfl) (by kernel_rfl) (by kernel_rfl) (fun _ _ _ h => h) (Or.inl ⟨by rfl, ?_⟩) hHeld ?_; rotate_left 1; (intro w_ hSw_; go_simp; with_reducible rfl); (try simp only [Act.put, List.setIfInBounds_toArray, List.set_cons_zero, List.set_cons_succ]))
    (refine hk_take (i := 1) rfl (by kernel_rfl) (by kernel_rfl) (by kernel_rfl) (fun _ _ _ h => h) (yl_load rfl rfl rfl (fun w_ ⟨_, H_⟩ => H_.heap (.tail _ (.head _))) (by kernel_rfl) rfl) hHeld ?_; (try simp only [Act.put, List.setIfInBounds_toArray, List.set_cons_zero, List.set_cons_succ]))
    (refine hk_take (i := 2) (v := ?_) rfl (by kernel_rfl) (by kernel_rfl) (by kernel_rfl) (fun _ _ _ h => h) (Or.inl ⟨by rfl, ?_⟩) hHeld ?_; rotate_left 1; (intro w_ hSw_; go_simp; with_reducible rfl); (try simp only [Act.put, List.setIfInBounds_toArray, List.set_cons_zero, List.set_cons_succ])); (refine hk_take (i := 3) (v := ?_) rfl (by kernel_rfl) (by kernel_rfl) (by kernel_rfl) (fun _ _ _ h => h) (Or.inl ⟨by rfl, ?_⟩) hHeld ?_; rotate_left 1; (intro w_ hSw_; go_simp; with_reducible rfl); (try simp only [Act.put, List.setIfInBounds_toArray, List.set_cons_zero, List.set_cons_succ])); (refine hk_take (i := 4) (v := ?_) rfl (by kernel_rfl) (by kernel_rfl) (by kernel_rfl) (fun _ _ _ h => h) (Or.inl ⟨by rfl, ?_⟩) hHeld ?_; rotate_left 1; (intro w_ hSw_; go_simp; with_reducible rfl); (try simp only [Act.put, List.setIfInBounds_toArray, List.set_cons_zero, List.set_cons_succ]))
    (refine hk_take (i := 5) rfl (by kernel_rfl) (by kernel_rfl) (by kernel_rfl) (fun _ _ _ h => h) (yl_load rfl rfl rfl (fun w_ ⟨_, H_⟩ => H_.heap (.head _)) (by kernel_rfl) hP0.out) hHeld ?_; (try simp only [Act.put, List.setIfInBounds_toArray, List.set_cons_zero, List.set_cons_succ]))
    (refine hk_take (i := 6) (v := ?_) rfl (by kernel_rfl) (by kernel_rfl) (by kernel_rfl) (fun _ _ _ h => h) (Or.inl ⟨by rfl, ?_⟩) hHeld ?_; rotate_left 1; (intro w_ hSw_; go_simp; with_reducible rfl); (try simp only [Act.put, List.setIfInBounds_toArray, List.set_cons_zero, List.set_cons_succ]))
    clear hHeld
    (refine hk_op (i := 7) rfl (by kernel_rfl) (fun K hK => ?_))
    refine hs_store H rfl rfl rfl rfl (n := 2) rfl rfl (by kernel_rfl) (by have h1 := hoD.out.size; have h2 := hoD.out.le; exact Nat.ble_eq_true_of_le (by show p + 1 ≤ curD.size; omega)) (by rfl) rfl rfl ?_
    intro W_ H9
    refine hK.out _ _ ⟨_, H9⟩ (fun hHeld => ?_)
    clear hK K hHeld H
    (try simp only [Act.put, List.setIfInBounds_toArray, List.set_cons_zero, List.set_cons_succ])
    (refine wpAnyH_done (by kernel_rfl) ?_ _)
    have H := H9
    clear H9
    have hoD1 := Aside0.mk (own_put6 (v := rd (byteF v) ((0 : Nat) : Int)) hoD.out hpn)
    have hl1 : Aside0 (l.set p (rd (byteF v) ((0 : Nat) : Int)) = splice l p ((byteF v).take 1)) := ⟨by have hq := splice_set l p 0 (byteF v) (by have := hnn.out; omega) (by simp [byteF]); rw [← hq]; unfold splice; simp⟩
    rw [hl1.out] at hoD1
    clear hoD hl1 hP0
    go_wp2_with ((first | ((with_reducible refine gate_guardG ?_); refine hp_guardLG rfl rfl ?_; (with_reducible first | refine go_tt ?_ | refine go_ff ?_ | refine go_tf ?_ | refine go_ft ?_))); (try simp only [Act.put, List.setIfInBounds_toArray, List.set_cons_zero, List.set_cons_succ]))
    go_loopg [15] 3 (fun kq v15 w' => ∃ (i : Nat) (cur : Array Value), v15 = .int .i64 (i : Int) ∧ Aside0 (i + kq = 4 ∧ 1 ≤ i ∧ (wide = false → i = 1)) ∧ Aside0 (Own .u8 5 gD cur n capD (splice l p ((byteF v).take i))) ∧ Hp w w' [(gP, curP, 5), (g3, #[.int .i64 wm, .slice (some ⟨gD, 0, none⟩) n capD], 35), (gD, cur, 5), (gm, #[.int .i64 wm, .slice A n c], 35), (gr, #[.int .i64 0, .slice none 0 0], 35)])
    case atStart => exact ⟨1, _, rfl, ⟨by decide, by decide, fun _ => rfl⟩, hoD1, H⟩
    case round =>
      clear H hoD1
      obtain ⟨i, cur, rfl, hi, hoC, H⟩ := hrel
      by_cases hg : wide = true ∧ i < 4
      · obtain ⟨hwd, hi4⟩ := hg
        have hwi : Aside0 (wide = true) := ⟨hwd⟩
        subst hwd
        have hi4' : (i : Int) < 4 := by omega
        obtain ⟨q, hq⟩ : ∃ q, q = p + i := ⟨_, rfl⟩
        have hqn : q < n := by have := hfit.out; rw [show (sizeF true).toNat = 4 from rfl] at this; omega
        have hqn2 : (q : Int) < (n : Int) := by omega
        have e3 : wrap64 ((p : Int) + (i : Int)) = (q : Int) := by have := hl.out; have := hnn.out; unfold wrap64; omega
        have e5 : IntKind.i64.wrap ((p : Int) + (i : Int)) = (q : Int) := by have := hl.out; have := hnn.out; rw [IntKind.wrap_i64]; omega
        have e4 : wrap64 ((i : Int) + 1) = ((i + 1 : Nat) : Int) := by unfold wrap64; omega
        replace hq := Aside0.mk hq
        have hPi := Aside0.mk (hB.out i hi4 curP htP.out)
        go_wp2_with ((first | ((with_reducible refine gate_guardG ?_); refine hp_guardLG rfl rfl ?_; (with_reducible first | refine go_tt ?_ | refine go_ff ?_ | refine go_tf ?_ | refine go_ft ?_))); (try simp only [Act.put, List.setIfInBounds_toArray, List.set_cons_zero, List.set_cons_succ]))
        refine wp_region_held_drew (S := fun W' => ∃ L2, Hp w W' ((gP, curP, 5) :: (g3, #[.int .i64 wm, .slice (some ⟨gD, 0, none⟩) n capD], 35) :: L2)) (by kernel_rfl) ⟨_, H.drew⟩ (fun hHeld => ?_)
        have H := H.drew
        change wpAnyH _ _ _ _ _ 11 (Array.replicate 11 false) _ _
        generalize World.drew _ = W1 at *
        (refine hk_take (i := 0) (v := ?_) rfl (by kernel_rfl) (by kernel_rfl) (by kernel_rfl) (fun _ _ _ h => h) (Or.inl ⟨by rfl, ?_⟩) hHeld ?_; rotate_left 1; (intro w_ hSw_; go_simp; with_reducible rfl); (try simp only [Act.put, List.setIfInBounds_toArray, List.set_cons_zero, List.set_cons_succ]))
        (refine hk_take (i := 1) rfl (by kernel_rfl) (by kernel_rfl) (by kernel_rfl) (fun _ _ _ h => h) (yl_load rfl rfl rfl (fun w_ ⟨_, H_⟩ => H_.heap (.tail _ (.head _))) (by kernel_rfl) rfl) hHeld ?_; (try simp only [Act.put, List.setIfInBounds_toArray, List.set_cons_zero, List.set_cons_succ]))
        (refine hk_take (i := 2) (v := ?_) rfl (by kernel_rfl) (by kernel_rfl) (by kernel_rfl) (fun _ _ _ h => h) (Or.inl ⟨by rfl, ?_⟩) hHeld ?_; rotate_left 1; (intro w_ hSw_; go_simp; with_reducible rfl); (try simp only [Act.put, List.setIfInBounds_toArray, List.set_cons_zero, List.set_cons_succ])); (refine hk_take (i := 3) (v := ?_) rfl (by kernel_rfl) (by kernel_rfl) (by kernel_rfl) (fun _ _ _ h => h) (Or.inl ⟨by rfl, ?_⟩) hHeld ?_; rotate_left 1; (intro w_ hSw_; go_simp; with_reducible rfl); (try simp only [Act.put, List.setIfInBounds_toArray, List.set_cons_zero, List.set_cons_succ])); (refine hk_take (i := 4) (v := ?_) rfl (by kernel_rfl) (by kernel_rfl) (by kernel_rfl) (fun _ _ _ h => h) (Or.inl ⟨by rfl, ?_⟩) hHeld ?_; rotate_left 1; (intro w_ hSw_; go_simp; with_reducible rfl); (try simp only [Act.put, List.setIfInBounds_toArray, List.set_cons_zero, List.set_cons_succ])); (refine hk_take (i := 5) (v := ?_) rfl (by kernel_rfl) (by kernel_rfl) (by kernel_rfl) (fun _ _ _ h => h) (Or.inl ⟨by rfl, ?_⟩) hHeld ?_; rotate_left 1; (intro w_ hSw_; go_simp; with_reducible rfl); (try simp only [Act.put, List.setIfInBounds_toArray, List.set_cons_zero, List.set_cons_succ])); (refine hk_take (i := 6) (v := ?_) rfl (by kernel_rfl) (by kernel_rfl) (by kernel_rfl) (fun _ _ _ h => h) (Or.inl ⟨by rfl, ?_⟩) hHeld ?_; rotate_left 1; (intro w_ hSw_; go_simp; with_reducible rfl); (try simp only [Act.put, List.setIfInBounds_toArray, List.set_cons_zero, List.set_cons_succ])); (refine hk_take (i := 7) (v := ?_) rfl (by kernel_rfl) (by kernel_rfl) (by kernel_rfl) (fun _ _ _ h => h) (Or.inl ⟨by rfl, ?_⟩) hHeld ?_; rotate_left 1; (intro w_ hSw_; go_simp; with_reducible rfl); (try simp only [Act.put, List.setIfInBounds_toArray, List.set_cons_zero, List.set_cons_succ]))
        (refine hk_take (i := 8) rfl (by kernel_rfl) (by kernel_rfl) (by kernel_rfl) (fun _ _ _ h => h) (yl_load rfl rfl rfl (fun w_ ⟨_, H_⟩ => H_.heap (.head _)) (by kernel_rfl) hPi.out) hHeld ?_; (try simp only [Act.put, List.setIfInBounds_toArray, List.set_cons_zero, List.set_cons_succ]))
        (refine hk_take (i := 9) (v := ?_) rfl (by kernel_rfl) (by kernel_rfl) (by kernel_rfl) (fun _ _ _ h => h) (Or.inl ⟨by rfl, ?_⟩) hHeld ?_; rotate_left 1; (intro w_ hSw_; go_simp; with_reducible rfl); (try simp only [Act.put, List.setIfInBounds_toArray, List.set_cons_zero, List.set_cons_succ]))
        clear hHeld
        (refine hk_op (i := 10) rfl (by kernel_rfl) (fun K hK => ?_))
        refine hs_store H rfl rfl rfl rfl (n := 2) rfl rfl (by kernel_rfl) (by have h1 := hoC.out.size; have h2 := hoC.out.le; exact Nat.ble_eq_true_of_le (by show q + 1 ≤ cur.size; omega)) (by rfl) rfl rfl ?_
        intro W_ H9
        refine hK.out _ _ ⟨_, H9⟩ (fun hHeld => ?_)
        clear hK K hHeld H
        (try simp only [Act.put, List.setIfInBounds_toArray, List.set_cons_zero, List.set_cons_succ])
        (refine wpAnyH_done (by kernel_rfl) ?_ _)
        have H := H9
        clear H9
        go_wp2_with ((first | ((with_reducible refine gate_guardG ?_); refine hp_guardLG rfl rfl ?_; (with_reducible first | refine go_tt ?_ | refine go_ff ?_ | refine go_tf ?_ | refine go_ft ?_))); (try simp only [Act.put, List.setIfInBounds_toArray, List.set_cons_zero, List.set_cons_succ]))
        go_roundg (gk - 1)
        case measure => have := hi.out.1; omega
        case rel => exact ⟨i + 1, _, congrArg (Value.int .i64) (by first | exact e4 | rfl | omega), ⟨by have := hi.out.1; omega, by omega, fun hf => by cases hf⟩, ⟨by have z := own_put6 (v := rd (byteF v) (i : Int)) hoC.out hqn; rw [hq.out, splice_set l p i (byteF v) (by have := hq.out; have := hnn.out; omega) (by simpa [byteF] using hi4)] at z; rw [hq.out]; exact z⟩, H⟩
      · have hfin : Aside0 (splice l p ((byteF v).take i) = saveL l p v wide) := ⟨by
          unfold saveL
          have h1 := hi.out
          cases wide with
          | false => rw [h1.2.2 rfl]; rfl
          | true =>
            have : i = 4 := by
              have : ¬ i < 4 := fun h4 => hg ⟨rfl, h4⟩
              omega
            rw [this]
            rfl⟩
        have hlen : Aside0 ((saveL l p v wide).length = l.length) := ⟨by rw [← hfin.out]; have := hoC.out.len; have := hnn.out; omega⟩
        have hgD := Aside0.mk (H.blk (gD, cur, 5) (by repeat (first | exact .head _ | refine .tail _ ?_)))
        cases wide with
        | false =>
          clear hg
          go_wp2_with ((first | ((with_reducible refine gate_guardG ?_); refine hp_guardLG rfl rfl ?_; (with_reducible first | refine go_tt ?_ | refine go_ff ?_ | refine go_tf ?_ | refine go_ft ?_)) | ((with_reducible refine gate_loadG ?_); (first | (refine hp_wholeG H rfl (ty := 35) rfl rfl (by repeat (first | exact .head _ | refine .tail _ ?_)) (by kernel_rfl) (by kernel_rfl) ?_))) | ((with_reducible refine gate_storeG ?_); ((first | (refine hp_store0G H rfl rfl rfl rfl rfl (by kernel_rfl) (by first | rfl | exact fit_.out) (by rfl) (by first | exact putM0 _ _ _ _) ?_) | (refine hp_store1G H rfl rfl rfl rfl rfl (by kernel_rfl) (by first | rfl | exact fit_.out) (by rfl) (by first | exact putM0 _ _ _ _) ?_) | (refine hp_store2G H rfl rfl rfl rfl rfl (by kernel_rfl) (by first | rfl | exact fit_.out) (by rfl) (by first | exact putM0 _ _ _ _) ?_) | (refine hp_store3G H rfl rfl rfl rfl rfl (by kernel_rfl) (by first | rfl | exact fit_.out) (by rfl) (by first | exact putM0 _ _ _ _) ?_) | (refine hp_store4G H rfl rfl rfl rfl rfl (by kernel_rfl) (by first | rfl | exact fit_.out) (by rfl) (by first | exact putM0 _ _ _ _) ?_)); intro W_ H_))); (try (clear H; have H := H_; clear H_)); (try simp only [Act.put, List.setIfInBounds_toArray, List.set_cons_zero, List.set_cons_succ]))
          exact bodyPost_ret (hp_results2 rfl _ _ _ 35 _ (.bool true) rfl rfl (H.heap (g := gr) (by repeat (first | exact .head _ | refine .tail _ ?_))) (by kernel_rfl) (by kernel_rfl)) rfl ⟨gD, _, capD, rfl, hgD.out.1, H.heap (g := gD) (by repeat (first | exact .head _ | refine .tail _ ?_)), by rw [← hfin.out]; exact hoC.out.take, by have := hnn.out; have := hlen.out; omega, hoC.out.le, hoC.out.max, H.below⟩
        | true =>
          have hi4 : ¬ i < 4 := fun h4 => hg ⟨rfl, h4⟩
          have hi4' : ¬ (i : Int) < 4 := by omega
          clear hg
          go_wp2_with ((first | ((with_reducible refine gate_guardG ?_); refine hp_guardLG rfl rfl ?_; (with_reducible first | refine go_tt ?_ | refine go_ff ?_ | refine go_tf ?_ | refine go_ft ?_)) | ((with_reducible refine gate_loadG ?_); (first | (refine hp_wholeG H rfl (ty := 35) rfl rfl (by repeat (first | exact .head _ | refine .tail _ ?_)) (by kernel_rfl) (by kernel_rfl) ?_))) | ((with_reducible refine gate_storeG ?_); ((first | (refine hp_store0G H rfl rfl rfl rfl rfl (by kernel_rfl) (by first | rfl | exact fit_.out) (by rfl) (by first | exact putM0 _ _ _ _) ?_) | (refine hp_store1G H rfl rfl rfl rfl rfl (by kernel_rfl) (by first | rfl | exact fit_.out) (by rfl) (by first | exact putM0 _ _ _ _) ?_) | (refine hp_store2G H rfl rfl rfl rfl rfl (by kernel_rfl) (by first | rfl | exact fit_.out) (by rfl) (by first | exact putM0 _ _ _ _) ?_) | (refine hp_store3G H rfl rfl rfl rfl rfl (by kernel_rfl) (by first | rfl | exact fit_.out) (by rfl) (by first | exact putM0 _ _ _ _) ?_) | (refine hp_store4G H rfl rfl rfl rfl rfl (by kernel_rfl) (by first | rfl | exact fit_.out) (by rfl) (by first | exact putM0 _ _ _ _) ?_)); intro W_ H_))); (try (clear H; have H := H_; clear H_)); (try simp only [Act.put, List.setIfInBounds_toArray, List.set_cons_zero, List.set_cons_succ]))
          exact bodyPost_ret (hp_results2 rfl _ _ _ 35 _ (.bool true) rfl rfl (H.heap (g := gr) (by repeat (first | exact .head _ | refine .tail _ ?_))) (by kernel_rfl) (by kernel_rfl)) rfl ⟨gD, _, capD, rfl, hgD.out.1, H.heap (g := gD) (by repeat (first | exact .head _ | refine .tail _ ?_)), by rw [← hfin.out]; exact hoC.out.take, by have := hnn.out; have := hlen.out; omega, hoC.out.le, hoC.out.max, H.below⟩
end Go.Proofs.Ytcagccodmmcnfaa.Cpu
