/- Several texts in one, written by mergeall.py. Own work. -/
import Derived.Test.YtcagccodmmcnfaaMxA
import Derived.Test.YtcagccodmmcnfaaQ34
import Derived.Test.YtcagccodmmcnfaaQB
import Derived.Test.YtcagccodmmcnfaaQ18
import Derived.Test.YtcagccodmmcnfaaQ66
import Derived.Test.YtcagccodmmcnfaaMxB
import Derived.WalkSpells
section
/- Rows compared: what the printed loops say. Own work; a template. -/
namespace Go.Proofs.Ytcagccodmmcnfaa.Cpu
open Go.RowKit Go.Proofs.YtcagccodmmcnfaaW.PrintWords Go.Proofs.YtcagccodmmcnfaaW.PrintLast Go.Proofs.YtcagccodmmcnfaaW.PrintMore Go.Proofs.Ytcagccodmmcnfaa.Hp Go.Proofs.Ytcagccodmmcnfaa.Q
theorem eq_loop (xs ys : List Int) (hl : xs.length = ys.length) (l : Nat → Int → Option Bool) (h : ∀ (k i : Nat), i < xs.length → l (k + 1) (i : Int) = if rd xs i = rd ys i then l k ((i + 1 : Nat) : Int) else some false) (he : ∀ k, l (k + 1) (xs.length : Int) = some true) :
    ∀ (d i : Nat), i + d = xs.length → l (d + 1) (i : Int) = some (xs.drop i == ys.drop i)
  | 0, i, hi => by
    obtain rfl : i = xs.length := by omega
    rw [he, List.drop_length, hl, List.drop_length]
    rfl
  | d + 1, i, hi => by
    have h1 : i < xs.length := by omega
    have h2 : i < ys.length := by omega
    rw [h _ _ h1, List.drop_eq_getElem_cons h1, List.drop_eq_getElem_cons h2]
    have e1 : rd xs (i : Int) = xs[i] := by unfold rd; rw [Int.toNat_natCast, List.getD_eq_getElem?_getD, List.getElem?_eq_getElem h1]; rfl
    have e2 : rd ys (i : Int) = ys[i] := by unfold rd; rw [Int.toNat_natCast, List.getD_eq_getElem?_getD, List.getElem?_eq_getElem h2]; rfl
    rw [e1, e2]
    by_cases hq : xs[i] = ys[i]
    · rw [if_pos hq, eq_loop xs ys hl l h he d (i + 1) (by omega)]
      show _ = some ((xs[i] == ys[i]) && (xs.drop (i + 1) == ys.drop (i + 1)))
      rw [hq, beq_self_eq_true, Bool.true_and]
    · rw [if_neg hq]
      show _ = some ((xs[i] == ys[i]) && (xs.drop (i + 1) == ys.drop (i + 1)))
      rw [beq_eq_false_iff_ne.2 hq, Bool.false_and]
theorem ne_len {xs ys : List Int} (h : ¬ (xs.length : Int) = (ys.length : Int)) : (xs == ys) = false := by
  rw [beq_eq_false_iff_ne]
  rintro rfl
  exact h rfl
theorem w64n {i : Nat} (h : i < 9223372036854775807) : wrap64 ((i : Int) + 1) = ((i + 1 : Nat) : Int) := by
  unfold wrap64
  omega
theorem bytes_f (xs ys : List Int) (hb : xs.length ≤ 9223372036854775807) : slices_Equal_byte_byte.f (xs.length + 1) xs ys = some (xs == ys) := by
  unfold slices_Equal_byte_byte.f
  by_cases hl : (xs.length : Int) = (ys.length : Int)
  · rw [if_pos hl]
    refine eq_loop xs ys (by omega) (fun k i => slices_Equal_byte_byte.l0 k xs ys (xs.length : Int) i) (fun k i hi => ?_) (fun k => ?_) xs.length 0 (by omega)
    · simp only [slices_Equal_byte_byte.l0]
      rw [if_pos (by omega), if_pos (by omega), if_pos (by omega), if_pos (by omega), w64n (by omega)]
    · simp only [slices_Equal_byte_byte.l0]
      rw [if_neg (by omega)]
  · rw [if_neg hl, ne_len hl]
theorem same_f (xs ys : List Int) (hb : xs.length ≤ 9223372036854775807) : spliceref01_Same.f (xs.length + 1) xs ys = some (xs == ys) := by
  unfold spliceref01_Same.f
  by_cases hl : (xs.length : Int) = (ys.length : Int)
  · rw [if_pos hl]
    refine eq_loop xs ys (by omega) (fun k i => spliceref01_Same.l0 k xs ys i) (fun k i hi => ?_) (fun k => ?_) xs.length 0 (by omega)
    · simp only [spliceref01_Same.l0]
      rw [if_pos (by omega), if_pos (by omega), if_pos (by omega), w64n (by omega)]
    · simp only [spliceref01_Same.l0]
      rw [if_neg (by omega)]
  · rw [if_neg hl, ne_len hl]
section
variable {w : World} {A B : Option Addr} {n c m d : Nat} {l l' : List Int}
theorem eqB_c (h1 : RdS .u8 w A n c l) (h2 : RdS .u8 w B m d l') {r : Bool} (hr : (l == l') = r) : Calls Try.prog 32 #[.slice A n c, .slice B m d] w fun e w' => e = .returned (.bool r) ∧ Below w.heap.size w w' := by
  obtain ⟨rfl, hc, hm, hk⟩ := h1
  obtain ⟨rfl, hc', hm', hk'⟩ := h2
  exact (slices_Equal_byte_byte.calls _ A c l B d l' r w hk hc hk' hc' (by rw [← hr]; exact bytes_f l l' (by omega))).mono fun _ _ hq => ⟨hq.1, hq.2.below⟩
theorem rsame_c (h1 : RdS .u8 w A n c l) (h2 : RdS .u8 w B m d l') {r : Bool} (hr : (l == l') = r) : Calls Try.prog 14 #[.slice A n c, .slice B m d] w fun e w' => e = .returned (.bool r) ∧ Below w.heap.size w w' := by
  obtain ⟨rfl, hc, hm, hk⟩ := h1
  obtain ⟨rfl, hc', hm', hk'⟩ := h2
  exact (spliceref01_Same.calls _ A c l B d l' r w hk hc hk' hc' (by rw [← hr]; exact same_f l l' (by omega))).mono fun _ _ hq => ⟨hq.1, hq.2.below⟩
end
end Go.Proofs.Ytcagccodmmcnfaa.Cpu
end
section
/- States compared: cpu.Same, spliceref06.Same. Own work; a template, printed by gen_same.py. -/
namespace Go.Proofs.Ytcagccodmmcnfaa.Cpu
open Go.RowKit Go.Proofs.YtcagccodmmcnfaaW.PrintWords Go.Proofs.YtcagccodmmcnfaaW.PrintLast Go.Proofs.YtcagccodmmcnfaaW.PrintMore Go.Proofs.Ytcagccodmmcnfaa.Hp Go.Proofs.Ytcagccodmmcnfaa.Q
set_option linter.unusedVariables false
set_option linter.unusedSimpArgs false
attribute [local go_sem] add_any
end Go.Proofs.Ytcagccodmmcnfaa.Cpu
end
section
/- slices.Clone of bytes; cpu.New. Own work; a template. -/
namespace Go.Proofs.Ytcagccodmmcnfaa.Cpu
open Go.RowKit Go.Proofs.YtcagccodmmcnfaaW.PrintWords Go.Proofs.YtcagccodmmcnfaaW.PrintLast Go.Proofs.YtcagccodmmcnfaaW.PrintMore Go.Proofs.Ytcagccodmmcnfaa.Hp Go.Proofs.Ytcagccodmmcnfaa.Q
set_option linter.unusedVariables false
set_option linter.unusedSimpArgs false
attribute [local go_sem] add_any
theorem lit_own (k : IntKind) (e : TypeId) (g : Nat) : Own k e g #[] 0 0 [] := ⟨rfl, rfl, Nat.le_refl _, rfl, by decide⟩
set_option maxHeartbeats 8000000 in
set_option maxRecDepth 100000 in
theorem clone_c (A : Option Addr) (n c : Nat) (l : List Int) (w : World) (h : Aside0 (RdS .u8 w A n c l)) (hb : n ≤ 140737488355328) : Calls Try.prog 20 #[.slice A n c] w fun e w' => ∃ A' c', e = .returned (.slice A' n c') ∧ w'.ownsRow w.heap.size 5 1 (.slice A' n c') n (nums .u8 l) ∧ Below w.heap.size w w' := by
  have H := Hp.nil w
  have he := fun (a : Option Addr) (n c : Nat) (w_ : World) => Go.Lib.run_eql_slice_nil (P := Try.prog) w_ 23 5 a n c 0 0 Try.underlying23
  cases A with
  | none =>
    have h0 : n = 0 := by
      rcases Nat.eq_zero_or_pos n with h0 | h0
      · exact h0
      · obtain ⟨ad, h1, _⟩ := h.out.at_ 0 (by omega) (by omega)
        cases h1
    subst h0
    go_enter Try.func20, Try.ntmps20
    go_wp2
    go_ret
    exact ⟨none, 0, rfl, ⟨by rw [nums_length]; exact h.out.1.symm, .inl ⟨rfl, rfl⟩⟩, Below.refl _ _⟩
  | some ad =>
    go_enter Try.func20, Try.ntmps20
    go_wp2_with ((first | ((with_reducible refine gate_guardG ?_); refine hp_guardLG rfl rfl ?_; (with_reducible first | refine go_tt ?_ | refine go_ff ?_ | refine go_tf ?_ | refine go_ft ?_)) | ((with_reducible refine gate_litG ?_); (refine hp_litG H rfl rfl (by first | (go_simp; done) | (go_simp; rfl)) ?_; intro g_ W_ H_)) | ((with_reducible refine gate_appG ?_); (refine hp_appG H rfl rfl Try.underlying23 (k := .u8) 1 (by kernel_rfl) (by decide) rfl (by first | exact List.Perm.refl _ | exact List.Perm.swap _ _ _) (lit_own _ _ _) rfl (h.out.below H.below) (by omega) (by first | exact Nat.zero_add _ | rfl) (by first | exact List.nil_append _ | rfl) ?_; intro g_ cur_ cap_ W_ ho_ H_; replace ho_ := Aside0.mk ho_))); (try (clear H; have H := H_; clear H_)); (try simp only [Act.put, List.setIfInBounds_toArray, List.set_cons_zero, List.set_cons_succ]))
    go_ret
    exact ⟨_, _, rfl, H.own' (.head _) ho_.out, H.below⟩
section
variable {W W' W9 : World} {base e n c : Nat} {A : Option Addr} {k : IntKind} {l : List Int}
theorem own_step (h : W.ownsRow base e 1 (.slice A n c) n (nums k l)) (hm : ∀ g, base ≤ g → g < W.heap.size → W'.heap[g]? = W.heap[g]?) : W'.ownsRow base e 1 (.slice A n c) n (nums k l) := by
  obtain ⟨hl, h | ⟨g, cap, cur, hv, hg, hh, r⟩⟩ := h
  · exact ⟨hl, .inl h⟩
  · exact ⟨hl, .inr ⟨g, cap, cur, hv, hg, (hm g hg (blk_lt hh)).trans hh, r⟩⟩
theorem own_rds (h : W.ownsRow base e 1 (.slice A n c) n (nums k l)) (hm : ∀ g, base ≤ g → g < W.heap.size → W9.heap[g]? = W.heap[g]?) : RdS k W9 A n c l := by
  have h9 := own_step h hm
  obtain ⟨hl, ⟨hv, h0⟩ | ⟨g, cap, cur, hv, hg, hh, r⟩⟩ := id h9
  · cases hv
    rw [nums_length] at hl
    obtain rfl : l = [] := List.eq_nil_of_length_eq_zero (by omega)
    exact RdS.nil k W9
  · simp only [Value.slice.injEq] at hv
    obtain ⟨rfl, _, rfl⟩ := hv
    exact Hp.rdsOF hh (Own.of h9 hh)
theorem zero_nums (k : IntKind) (m : Nat) : (Builtin.zeroCells (Value.int k 0).cells m).toList = nums k (List.replicate m 0) := by
  unfold Builtin.zeroCells nums
  simp [Value.cells]
  have : (fun i : Nat => ([Value.int k 0][i % 1]?.getD default)) = fun _ => Value.int k 0 := by funext i; simp [Nat.mod_one]
  rw [this, List.map_const', List.length_range]
end
section
variable {P : Program} {ops : Array Oper} {o : Oper} {a : Act} {K : Act → World → Prop} {Q : Exit → Act → World → Prop} {E : Prop} {w0 W0 W : World} {L : List (Nat × Array Value × TypeId)}
/-- append(v, make([]T, m)...), v a row made since W0. -/
theorem hs_appZ (hgd : o.guard = none) {s x : Operand} {t ti : TypeId} (hop : o.op = .call { callee := .builtin .append, args := #[s, x], argTypes := #[t, ti] }) {e : TypeId} (ht : P.underlying t = some (.slice e)) {k ki kx : IntKind} (hti : P.underlying ti = some (.int ki)) (bytes : Nat) (hi : (P.info? e).map (fun i => (i.zero, i.size, i.bytes)) = some (some (.int k 0), 1, bytes)) (hb0 : 0 < bytes)
    {A : Option Addr} {n c m : Nat} (hs : a.eval s = .slice A n c) (hx : a.eval x = .int kx m) {l : List Int} (ho : W.ownsRow W0.heap.size e 1 (.slice A n c) n (nums k l)) (hB : Below W0.heap.size W0 W) (hb : (n + m) * bytes ≤ 140737488355328)
    (h : ∀ A' c' W', W'.ownsRow W0.heap.size e 1 (.slice A' (n + m) c') (n + m) (nums k (l ++ List.replicate m 0)) → Below W0.heap.size W0 W' → K (a.put o.dst (.slice A' (n + m) c')) W') : if Region.wanted o (yielded ops a.tmps) = true then Oper.wp P o a W K Q else E := by
  obtain ⟨i, hi1, hz, hsz, hby⟩ : ∃ i, P.info? e = some i ∧ i.zero = some (.int k 0) ∧ i.size = 1 ∧ i.bytes = bytes := by
    cases hq : P.info? e with
    | none => simp [hq] at hi
    | some i => simp [hq] at hi; exact ⟨i, rfl, hi.1, hi.2.1, hi.2.2⟩
  obtain ⟨v', W', h1, h2, h3, _⟩ := run_append_zeros (P := P) W W0.heap.size t ti o.type e i (.int k 0) 1 bytes ht hti hi1 hz hsz hby rfl (by omega) hb0 _ n _ ho kx m (by rw [zero_nums]; exact one_nums k _) hb hB.size
  rw [zero_nums, ← nums_append] at h2
  rw [if_pos (by simp [Region.wanted, hgd])]
  refine Go.Lib.wp_append_run W s x t ti hop _ _ hs hx v' W' h1 ?_
  have hB' : Below W0.heap.size W0 W' := hB.grown h3 hB.size (own_base ho)
  obtain ⟨hl, ⟨rfl, h0⟩ | ⟨g, cap, cur, rfl, hg, hh, r⟩⟩ := id h2
  · have := h none 0 W' (by rw [h0] at h2 ⊢; exact h2) hB'
    rwa [h0] at this
  · exact h _ _ W' h2 hB'
theorem hs_storeF (H : Hp w0 W L) (hgd : o.guard = none) {ty : TypeId} {x y : Operand} (ho : o.op = .store ty x y) (hd : o.dst = none) {g off : Nat} (hx : a.eval x = .pointer (some ⟨g, off, none⟩)) {cs : Array Value} {t : TypeId} {n : Nat} (hn : L[n]? = some (g, cs, t))
    {v : Value} (hy : a.eval y = v) (hi : (P.info? ty).map (·.size) = some v.cells.size) (hfit : Nat.ble (off + v.cells.size) cs.size = true) (h1 : v.cells.toList.all (·.oneCell') = true) {cs' : Array Value} (hc : putSeg cs off v.cells.toList = cs')
    {L' : List (Nat × Array Value × TypeId)} (hL : setL L n cs' = L')
    (h : ∀ W', Hp w0 W' L' → (∀ b, b ≠ g → W'.heap[b]? = W.heap[b]?) → W'.heap.size = W.heap.size → K a W') : if Region.wanted o (yielded ops a.tmps) = true then Oper.wp P o a W K Q else E := by
  subst hc hL hy
  have hm : (g, cs, t) ∈ L := (List.getElem?_eq_some_iff.1 hn).2 ▸ List.getElem_mem _
  have hw : Region.wanted o (yielded ops a.tmps) = true := by simp [Region.wanted, hgd]
  rw [if_pos hw]
  unfold Oper.wp execOp
  simp only [ho, hx, Instr.storeAt, Instr.sureAddr, Sem.run_bind, Sem.run_pure, Result.andThen_ok, run_sto W g off ty t cs _ (H.heap hm) hi (Nat.le_of_ble_eq_true hfit) h1]
  show K (a.put o.dst undef) _
  rw [hd]
  exact h _ (H.row n hn _) (fun b hb => setRow_other _ _ _ _ hb) (by simp)
end
def newT (entry write : Int) (data : List Int) (m : Nat) (inp : List Int) : St := ⟨entry, List.replicate 16 0, [], write, data ++ List.replicate m 0, inp, [], false, 0, 0⟩
/-- A new state: it reads as T in whatever world that has the blocks made since. -/
def NewIs (w : World) (T : St) (e : Ending) (w' : World) : Prop := ∃ s : SV, e = .returned (.agg s.c) ∧ (∀ W9, (∀ b, w.heap.size ≤ b → b < w'.heap.size → W9.heap[b]? = w'.heap[b]?) → Rd W9 s T) ∧ Below w.heap.size w w'
set_option maxHeartbeats 8000000 in
set_option maxRecDepth 100000 in
theorem new_c (Ac : Option Addr) (nc cc : Nat) (entry : Int) (Ad : Option Addr) (nd cd : Nat) (write : Int) (m : Nat) (A : Option Addr) (n c : Nat) (ld l : List Int) (w : World) (hd : Aside0 (RdS .u8 w Ad nd cd ld)) (hi : Aside0 (RdS .u8 w A n c l)) (hb1 : nd + m ≤ 140737488355328) (hb2 : n ≤ 140737488355328) :
    Calls Try.prog 19 #[.agg #[.slice Ac nc cc, .int .i64 entry, .slice Ad nd cd, .int .i64 write, .int .i64 (m : Int)], .slice A n c] w (NewIs w (newT entry write ld m l)) := by
  have H := Hp.nil w
  go_enter Try.func19, Try.ntmps19
  go_wp2_with ((first | ((with_reducible refine gate_guardG ?_); refine hp_guardLG rfl rfl ?_; (with_reducible first | refine go_tt ?_ | refine go_ff ?_ | refine go_tf ?_ | refine go_ft ?_)) | ((with_reducible refine gate_dst (N := 2) rfl ?_); refine hp_box H rfl rfl rfl ?_; intro gm W_ H_; clear H; have H := H_; clear H_) | ((with_reducible refine gate_dst (N := 4) rfl ?_); refine hp_alloc H rfl rfl (fun w_ => by go_simp; rfl) ?_; intro gr W_ H_; clear H; have H := H_; clear H_)); (try simp only [Act.put, List.setIfInBounds_toArray, List.set_cons_zero, List.set_cons_succ]))
  have Hx : ∃ x : Array Value, Hp w _ [(gr, x, 37), (gm, #[.slice Ac nc cc, .int .i64 entry, .slice Ad nd cd, .int .i64 write, .int .i64 (m : Int)], 25)] ∧ x.size = 25 := ⟨_, H, rfl⟩
  clear H

  refine wp_region_held_drew (S := fun W' => ∃ x : Array Value, Hp w W' [(gr, x, 37), (gm, #[.slice Ac nc cc, .int .i64 entry, .slice Ad nd cd, .int .i64 write, .int .i64 (m : Int)], 25)] ∧ x.size = 25) (by kernel_rfl) (Hx.imp fun _ H_ => ⟨H_.1.drew, H_.2⟩) (fun hHeld => ?_)
  change wpAnyH _ _ _ _ _ 7 (Array.replicate 7 false) _ _
  clear Hx
  (refine hk_take (i := 0) (v := ?_) rfl (by kernel_rfl) (by kernel_rfl) (by kernel_rfl) (fun _ _ _ h => h) (Or.inl ⟨by rfl, ?_⟩) hHeld ?_; rotate_left 1; (intro w_ hSw_; go_simp; with_reducible rfl); (try simp only [Act.put, List.setIfInBounds_toArray, List.set_cons_zero, List.set_cons_succ]))
  (refine hk_take (i := 1) rfl (by kernel_rfl) (by kernel_rfl) (by kernel_rfl) (fun _ _ _ h => h) (yl_load rfl rfl rfl (fun w_ ⟨x_, H_, _⟩ => H_.heap (by repeat (first | exact .head _ | refine .tail _ ?_))) (by kernel_rfl) (show _ = some (Value.slice Ad nd cd) from rfl)) hHeld ?_; (try simp only [Act.put, List.setIfInBounds_toArray, List.set_cons_zero, List.set_cons_succ]))
  (refine hk_take (i := 3) (v := ?_) rfl (by kernel_rfl) (by kernel_rfl) (by kernel_rfl) (fun _ _ _ h => h) (Or.inl ⟨by rfl, ?_⟩) hHeld ?_; rotate_left 1; (intro w_ hSw_; go_simp; with_reducible rfl); (try simp only [Act.put, List.setIfInBounds_toArray, List.set_cons_zero, List.set_cons_succ]))
  (refine hk_take (i := 4) rfl (by kernel_rfl) (by kernel_rfl) (by kernel_rfl) (fun _ _ _ h => h) (yl_load rfl rfl rfl (fun w_ ⟨x_, H_, _⟩ => H_.heap (by repeat (first | exact .head _ | refine .tail _ ?_))) (by kernel_rfl) (show _ = some (Value.int .i64 (m : Int)) from rfl)) hHeld ?_; (try simp only [Act.put, List.setIfInBounds_toArray, List.set_cons_zero, List.set_cons_succ]))
  (refine hk_op (i := 2) rfl (by kernel_rfl) (fun K hK => ?_))
  have hB0 := Aside0.mk (hHeld.elim fun _ H_ => H_.1.below)
  have hG0 := Aside0.mk (hHeld.elim fun _ H_ => blk_lt (H_.1.heap (.head _)))
  refine hs_goes0 rfl (f := 20) rfl Try.func20 (by kernel_rfl) rfl (clone_c Ad nd cd ld _ ⟨hd.out.below hB0.out⟩ (by omega)) (by (try simp only [List.map_toArray, List.map_cons, List.map_nil]); first | done | rfl) ?_
  rintro e_ W2_ ⟨A1, c1, rfl, ho1, hb_⟩
  refine ⟨_, rfl, ?_⟩
  replace ho1 := Aside0.mk ho1
  have hHeld0 := Aside0.mk hHeld
  refine hK.out _ _ (hHeld.imp fun _ H_ => ⟨H_.1.call hb_, H_.2⟩) (fun hHeld => ?_)
  clear hK K
  (try simp only [Act.put, List.setIfInBounds_toArray, List.set_cons_zero, List.set_cons_succ])
  (refine hk_op (i := 5) rfl (by kernel_rfl) (fun K hK => ?_))
  refine hs_appZ rfl rfl Try.underlying23 (k := .u8) Try.underlying3 1 (by kernel_rfl) (by decide) rfl rfl ho1.out hb_ (by omega) ?_
  intro A2 c2 W3_ ho2 hb2_
  replace ho2 := Aside0.mk ho2
  refine hK.out _ _ (hHeld0.out.imp fun _ H_ => ⟨H_.1.call hb2_, H_.2⟩) (fun hHeld => ?_)
  clear hK K ho1 hb_
  (try simp only [Act.put, List.setIfInBounds_toArray, List.set_cons_zero, List.set_cons_succ])
  (refine hk_take (i := 6) (v := ?_) rfl (by kernel_rfl) (by kernel_rfl) (by kernel_rfl) (fun _ _ _ h => h) (Or.inl ⟨by rfl, ?_⟩) hHeld ?_; rotate_left 1; (intro w_ hSw_; go_simp; with_reducible rfl); (try simp only [Act.put, List.setIfInBounds_toArray, List.set_cons_zero, List.set_cons_succ]))
  (refine wpAnyH_done (by kernel_rfl) ?_ _)
  go_wp2_with ((first | ((with_reducible refine gate_guardG ?_); refine hp_guardLG rfl rfl ?_; (with_reducible first | refine go_tt ?_ | refine go_ff ?_ | refine go_tf ?_ | refine go_ft ?_))); (try simp only [Act.put, List.setIfInBounds_toArray, List.set_cons_zero, List.set_cons_succ]))
  refine wp_region_held_drew (S := fun W' => ∃ x : Array Value, Hp w W' [(gr, x, 37), (gm, #[.slice Ac nc cc, .int .i64 entry, .slice Ad nd cd, .int .i64 write, .int .i64 (m : Int)], 25)] ∧ x.size = 25) (by kernel_rfl) (hHeld.imp fun _ H_ => ⟨H_.1.drew, H_.2⟩) (fun hHeld => ?_)
  change wpAnyH _ _ _ _ _ 10 (Array.replicate 10 false) _ _
  (refine hk_take (i := 0) (v := ?_) rfl (by kernel_rfl) (by kernel_rfl) (by kernel_rfl) (fun _ _ _ h => h) (Or.inl ⟨by rfl, ?_⟩) hHeld ?_; rotate_left 1; (intro w_ hSw_; go_simp; with_reducible rfl); (try simp only [Act.put, List.setIfInBounds_toArray, List.set_cons_zero, List.set_cons_succ]))
  (refine hk_take (i := 1) rfl (by kernel_rfl) (by kernel_rfl) (by kernel_rfl) (fun _ _ _ h => h) (yl_load rfl rfl rfl (fun w_ ⟨x_, H_, _⟩ => H_.heap (by repeat (first | exact .head _ | refine .tail _ ?_))) (by kernel_rfl) (show _ = some (Value.int .i64 entry) from rfl)) hHeld ?_; (try simp only [Act.put, List.setIfInBounds_toArray, List.set_cons_zero, List.set_cons_succ]))
  (refine hk_take (i := 2) (v := ?_) rfl (by kernel_rfl) (by kernel_rfl) (by kernel_rfl) (fun _ _ _ h => h) (Or.inl ⟨by rfl, ?_⟩) hHeld ?_; rotate_left 1; (intro w_ hSw_; go_simp; with_reducible rfl); (try simp only [Act.put, List.setIfInBounds_toArray, List.set_cons_zero, List.set_cons_succ]))
  (refine hk_take (i := 3) rfl (by kernel_rfl) (by kernel_rfl) (by kernel_rfl) (fun _ _ _ h => h) (yl_load rfl rfl rfl (fun w_ ⟨x_, H_, _⟩ => H_.heap (by repeat (first | exact .head _ | refine .tail _ ?_))) (by kernel_rfl) (show _ = some (Value.int .i64 write) from rfl)) hHeld ?_; (try simp only [Act.put, List.setIfInBounds_toArray, List.set_cons_zero, List.set_cons_succ]))
  (refine hk_take (i := 4) (v := ?_) rfl (by kernel_rfl) (by kernel_rfl) (by kernel_rfl) (fun _ _ _ h => h) (Or.inl ⟨by rfl, ?_⟩) hHeld ?_; rotate_left 1; (intro w_ hSw_; go_simp; with_reducible rfl); (try simp only [Act.put, List.setIfInBounds_toArray, List.set_cons_zero, List.set_cons_succ])); (refine hk_take (i := 5) (v := ?_) rfl (by kernel_rfl) (by kernel_rfl) (by kernel_rfl) (fun _ _ _ h => h) (Or.inl ⟨by rfl, ?_⟩) hHeld ?_; rotate_left 1; (intro w_ hSw_; go_simp; with_reducible rfl); (try simp only [Act.put, List.setIfInBounds_toArray, List.set_cons_zero, List.set_cons_succ])); (refine hk_take (i := 6) (v := ?_) rfl (by kernel_rfl) (by kernel_rfl) (by kernel_rfl) (fun _ _ _ h => h) (Or.inl ⟨by rfl, ?_⟩) hHeld ?_; rotate_left 1; (intro w_ hSw_; go_simp; with_reducible rfl); (try simp only [Act.put, List.setIfInBounds_toArray, List.set_cons_zero, List.set_cons_succ]))
  (refine hk_op (i := 7) rfl (by kernel_rfl) (fun K hK => ?_))
  have hB1 := Aside0.mk (hHeld.elim fun _ H_ => H_.1.below)
  refine hs_goes0 rfl (f := 20) rfl Try.func20 (by kernel_rfl) rfl (clone_c A n c l _ ⟨hi.out.below hB1.out⟩ hb2) (by (try simp only [List.map_toArray, List.map_cons, List.map_nil]); first | done | rfl) ?_
  rintro e_ W5_ ⟨A3, c3, rfl, ho3, hb3_⟩
  refine ⟨_, rfl, ?_⟩
  replace ho3 := Aside0.mk ho3
  replace hb3_ := Aside0.mk hb3_
  replace hb2_ := Aside0.mk hb2_
  refine hK.out _ _ (hHeld.imp fun _ H_ => ⟨H_.1.call hb3_.out, H_.2⟩) (fun hHeld => ?_)
  clear hK K
  (try simp only [Act.put, List.setIfInBounds_toArray, List.set_cons_zero, List.set_cons_succ])
  (refine hk_take (i := 8) (v := ?_) rfl (by kernel_rfl) (by kernel_rfl) (by kernel_rfl) (fun _ _ _ h => h) (Or.inl ⟨by rfl, ?_⟩) hHeld ?_; rotate_left 1; (intro w_ hSw_; go_simp; with_reducible rfl); (try simp only [Act.put, List.setIfInBounds_toArray, List.set_cons_zero, List.set_cons_succ]))
  obtain ⟨x_, H, hz_⟩ := hHeld
  (refine hk_op (i := 9) rfl (by kernel_rfl) (fun K hK => ?_))
  refine hs_storeF H rfl rfl rfl rfl (n := 0) rfl (v := .agg (SV.c ⟨entry, List.replicate 16 0, ⟨none, 0, 0⟩, write, ⟨A2, nd + m, c2⟩, ⟨A3, n, c3⟩, ⟨none, 0, 0⟩, false, 0, 0⟩)) rfl (by kernel_rfl) (by rw [hz_]; rfl) (by rfl) (sv_all _ hz_) rfl ?_
  intro W6_ H hf_ hs_
  replace hf_ := Aside0.mk hf_
  replace hs_ := Aside0.mk hs_
  refine hK.out _ _ ⟨_, H, rfl⟩ (fun hHeld => ?_)
  clear hK K hHeld
  (try simp only [Act.put, List.setIfInBounds_toArray, List.set_cons_zero, List.set_cons_succ])
  (refine wpAnyH_done (by kernel_rfl) ?_ _)
  go_wp2_with ((first | ((with_reducible refine gate_guardG ?_); refine hp_guardLG rfl rfl ?_; (with_reducible first | refine go_tt ?_ | refine go_ff ?_ | refine go_tf ?_ | refine go_ft ?_))); (try simp only [Act.put, List.setIfInBounds_toArray, List.set_cons_zero, List.set_cons_succ]))
  have z0 := hB0.out.size
  have z2 := hb2_.out.size
  have z3 := hb3_.out.size
  exact (bodyPost_ret (results_cell_row rfl _ _ _ 37 _ (0, 0) _ rfl (H.heap (by repeat (first | exact .head _ | refine .tail _ ?_))) Try.underlying37 rfl (by kernel_rfl)) rfl ⟨⟨entry, List.replicate 16 0, ⟨none, 0, 0⟩, write, ⟨A2, nd + m, c2⟩, ⟨A3, n, c3⟩, ⟨none, 0, 0⟩, false, 0, 0⟩, rfl, fun W9_ hW9_ => ⟨rfl, rfl, rfl, RdS.nil _ _, rfl,
    own_rds ho2.out (fun g h1 h2 => by
      have z4 := hG0.out
      have e1 := hW9_ g (by omega) (by rw [hs_.out]; exact Nat.lt_of_lt_of_le h2 z3)
      have e2 := hf_.out g (by omega)
      have e3 := hb3_.out.block g h2
      exact (e1.trans e2).trans e3),
    own_rds ho3.out (fun g h1 h2 => by
      have z4 := hG0.out
      have z5 : W3_.heap.size ≤ g := h1
      exact (hW9_ g (by omega) (by rw [hs_.out]; exact h2)).trans (hf_.out g (by omega))),
    RdS.nil _ _, rfl, rfl, rfl⟩, H.below⟩)
end Go.Proofs.Ytcagccodmmcnfaa.Cpu
end
section
/- The reference's New; an image handed in. Own work; a template. -/
namespace Go.Proofs.Ytcagccodmmcnfaa.Cpu
open Go.RowKit Go.Proofs.YtcagccodmmcnfaaW.PrintWords Go.Proofs.YtcagccodmmcnfaaW.PrintLast Go.Proofs.YtcagccodmmcnfaaW.PrintMore Go.Proofs.Ytcagccodmmcnfaa.Hp Go.Proofs.Ytcagccodmmcnfaa.Q
set_option linter.unusedVariables false
set_option linter.unusedSimpArgs false
attribute [local go_sem] add_any
/-- An image's words. -/
structure IM where
  code : Sl
  entry : Int
  data : Sl
  write : Int
  more : Int
def IM.c (m : IM) : Array Value := #[.slice m.code.a m.code.n m.code.c, .int .i64 m.entry, .slice m.data.a m.data.n m.data.c, .int .i64 m.write, .int .i64 m.more]
theorem m_code (m : IM) : m.c[0]? = some (.slice m.code.a m.code.n m.code.c) := rfl
theorem m_entry (m : IM) : m.c[1]? = some (.int .i64 m.entry) := rfl
theorem m_data (m : IM) : m.c[2]? = some (.slice m.data.a m.data.n m.data.c) := rfl
theorem m_write (m : IM) : m.c[3]? = some (.int .i64 m.write) := rfl
theorem m_more (m : IM) : m.c[4]? = some (.int .i64 m.more) := rfl
set_option maxHeartbeats 8000000 in
set_option maxRecDepth 100000 in
theorem rnew_c (mv : IM) (m : Nat) (hm : mv.more = (m : Int)) (A : Option Addr) (n c : Nat) (ld l : List Int) (w : World) (hd : Aside0 (RdS .u8 w mv.data.a mv.data.n mv.data.c ld)) (hi : Aside0 (RdS .u8 w A n c l)) (hb1 : Aside0 (mv.data.n + m ≤ 140737488355328)) (hb2 : Aside0 (n ≤ 140737488355328)) :
    Calls Try.prog 11 #[.agg mv.c, .slice A n c] w fun e w' => ∃ s : SV, e = .returned (.agg s.c) ∧ Rd w' s (newT mv.entry mv.write ld m l) ∧ Below w.heap.size w w' := by
  have H := Hp.nil w
  have gm4 : Aside0 (mv.c[4]? = some (.int .i64 (m : Int))) := ⟨by rw [m_more, hm]⟩
  clear hm
  go_enter Try.func11, Try.ntmps11
  go_wp2_with ((first | ((with_reducible refine gate_guardG ?_); refine hp_guardLG rfl rfl ?_; (with_reducible first | refine go_tt ?_ | refine go_ff ?_ | refine go_tf ?_ | refine go_ft ?_)) | ((with_reducible refine gate_dst (N := 2) rfl ?_); refine hp_box H rfl rfl rfl ?_; intro gm W_ H_; clear H; have H := H_; clear H_) | ((with_reducible refine gate_dst (N := 4) rfl ?_); refine hp_alloc H rfl rfl (fun w_ => by go_simp; rfl) ?_; intro gr W_ H_; clear H; have H := H_; clear H_) | ((with_reducible refine gate_litG ?_); (refine hp_litG H rfl rfl (by first | (go_simp; done) | (go_simp; rfl)) ?_; intro g_ W_ H_)) | ((with_reducible refine gate_loadG ?_); (refine hp_loadG H rfl rfl rfl (by repeat (first | exact .head _ | refine .tail _ ?_)) (by kernel_rfl) (by first | exact m_data _) ?_)) | ((with_reducible refine gate_appG ?_); (refine hp_appG H rfl rfl Try.underlying23 (k := .u8) 1 (by kernel_rfl) (by decide) rfl (by first | exact List.Perm.refl _ | exact List.Perm.swap _ _ _) (lit_own _ _ _) rfl (hd.out.below H.below) (by have := hb1.out; omega) (by first | exact Nat.zero_add _ | rfl) (by first | exact List.nil_append _ | rfl) ?_; intro gD curD capD W_ hoD H_; replace hoD := Aside0.mk hoD))); (try (clear H; have H := H_; clear H_)); (try simp only [Act.put, List.setIfInBounds_toArray, List.set_cons_zero, List.set_cons_succ]))
  have Hz : ∃ z : Array Value, z.size = 25 ∧ Hp w _ [(gD, curD, 5), (gr, z, 37), (gm, mv.c, 25)] := ⟨_, rfl, H⟩
  clear H
  obtain ⟨z0, hz0, H⟩ := Hz
  replace hz0 := Aside0.mk hz0
  go_loopg [5, 6] m (fun kq v5 v6 w' => ∃ (i g : Nat) (cur : Array Value) (cap : Nat), v5 = .slice (some ⟨g, 0, none⟩) (mv.data.n + i) cap ∧ v6 = .int .i64 (i : Int) ∧ Aside0 (i + kq = m) ∧ Aside0 (Own .u8 5 g cur (mv.data.n + i) cap (ld ++ List.replicate i 0)) ∧ Hp w w' [(g, cur, 5), (gr, z0, 37), (gm, mv.c, 25)])
  case atStart => exact ⟨0, gD, curD, capD, rfl, rfl, ⟨by omega⟩, ⟨by simpa using hoD.out⟩, H⟩
  case round =>
    clear H hoD
    obtain ⟨i, gX, curX, capX, rfl, rfl, hik, hoX, H⟩ := hrel
    by_cases hlt : i < m
    · have d0 : decide (i < m) = true := decide_eq_true hlt
      have hwn := Aside0.mk (w64n (i := i) (by have := hb1.out; omega))
      go_wp2_with ((first | ((with_reducible refine gate_guardG ?_); refine hp_guardLG rfl rfl ?_; (with_reducible first | refine go_tt ?_ | refine go_ff ?_ | refine go_tf ?_ | refine go_ft ?_)) | ((with_reducible refine gate_loadG ?_); (refine hp_loadG H rfl rfl rfl (by repeat (first | exact .head _ | refine .tail _ ?_)) (by kernel_rfl) (by first | exact gm4.out) ?_)) | ((with_reducible refine gate_litG ?_); (refine hp_litG H rfl rfl (by first | (go_simp; done) | (go_simp; rfl)) ?_; intro g_ W_ H_)) | ((with_reducible refine gate_appG ?_); (refine hp_appG H rfl rfl Try.underlying23 (k := .u8) 1 (by kernel_rfl) (by decide) rfl (by first | exact List.Perm.refl _ | exact List.Perm.swap _ _ _) (hoX.out) rfl (H.rds (cur := #[.int .u8 0]) (l := [0]) (.head _) rfl rfl (by decide) (by decide)) (by have := hb1.out; omega) (by first | exact Nat.zero_add _ | rfl) (by first | exact List.nil_append _ | rfl) ?_; intro gY curY capY W_ hoY H_; replace hoY := Aside0.mk hoY))); (try (clear H; have H := H_; clear H_)); (try simp only [Act.put, List.setIfInBounds_toArray, List.set_cons_zero, List.set_cons_succ]))
      go_roundg (gk - 1)
      case measure => have := hik.out; omega
      case rel => exact ⟨i + 1, gY, curY, capY, rfl, congrArg (Value.int .i64) hwn.out, ⟨by have := hik.out; omega⟩, ⟨by rw [List.replicate_succ', ← List.append_assoc]; exact hoY.out⟩, H.sub (.cons_cons _ (.cons _ (.refl _)))⟩
    · have d0 : decide (i < m) = false := decide_eq_false hlt
      have him : i = m := by have := hik.out; omega
      subst him
      go_wp2_with ((first | ((with_reducible refine gate_guardG ?_); refine hp_guardLG rfl rfl ?_; (with_reducible first | refine go_tt ?_ | refine go_ff ?_ | refine go_tf ?_ | refine go_ft ?_)) | ((with_reducible refine gate_loadG ?_); (refine hp_loadG H rfl rfl rfl (by repeat (first | exact .head _ | refine .tail _ ?_)) (by kernel_rfl) (by first | exact gm4.out) ?_))); (try simp only [Act.put, List.setIfInBounds_toArray, List.set_cons_zero, List.set_cons_succ]))
      refine wp_region_held_drew (S := fun W' => ∃ z : Array Value, Hp w W' [(gX, curX, 5), (gr, z, 37), (gm, mv.c, 25)] ∧ z.size = 25) (by kernel_rfl) ⟨_, H.drew, hz0.out⟩ (fun hHeld => ?_)
      change wpAnyH _ _ _ _ _ 11 (Array.replicate 11 false) _ _
      clear H
      (refine hk_take (i := 0) (v := ?_) rfl (by kernel_rfl) (by kernel_rfl) (by kernel_rfl) (fun _ _ _ h => h) (Or.inl ⟨by rfl, ?_⟩) hHeld ?_; rotate_left 1; (intro w_ hSw_; go_simp; with_reducible rfl); (try simp only [Act.put, List.setIfInBounds_toArray, List.set_cons_zero, List.set_cons_succ]))
      (refine hk_take (i := 1) rfl (by kernel_rfl) (by kernel_rfl) (by kernel_rfl) (fun _ _ _ h => h) (yl_load rfl rfl rfl (fun w_ ⟨x_, H_, _⟩ => H_.heap (by repeat (first | exact .head _ | refine .tail _ ?_))) (by kernel_rfl) (m_entry mv)) hHeld ?_; (try simp only [Act.put, List.setIfInBounds_toArray, List.set_cons_zero, List.set_cons_succ]))
      (refine hk_take (i := 2) (v := ?_) rfl (by kernel_rfl) (by kernel_rfl) (by kernel_rfl) (fun _ _ _ h => h) (Or.inl ⟨by rfl, ?_⟩) hHeld ?_; rotate_left 1; (intro w_ hSw_; go_simp; with_reducible rfl); (try simp only [Act.put, List.setIfInBounds_toArray, List.set_cons_zero, List.set_cons_succ]))
      (refine hk_take (i := 3) rfl (by kernel_rfl) (by kernel_rfl) (by kernel_rfl) (fun _ _ _ h => h) (yl_load rfl rfl rfl (fun w_ ⟨x_, H_, _⟩ => H_.heap (by repeat (first | exact .head _ | refine .tail _ ?_))) (by kernel_rfl) (m_write mv)) hHeld ?_; (try simp only [Act.put, List.setIfInBounds_toArray, List.set_cons_zero, List.set_cons_succ]))
      (refine hk_take (i := 4) (v := ?_) rfl (by kernel_rfl) (by kernel_rfl) (by kernel_rfl) (fun _ _ _ h => h) (Or.inl ⟨by rfl, ?_⟩) hHeld ?_; rotate_left 1; (intro w_ hSw_; go_simp; with_reducible rfl); (try simp only [Act.put, List.setIfInBounds_toArray, List.set_cons_zero, List.set_cons_succ])); (refine hk_take (i := 5) (v := ?_) rfl (by kernel_rfl) (by kernel_rfl) (by kernel_rfl) (fun _ _ _ h => h) (Or.inl ⟨by rfl, ?_⟩) hHeld ?_; rotate_left 1; (intro w_ hSw_; go_simp; with_reducible rfl); (try simp only [Act.put, List.setIfInBounds_toArray, List.set_cons_zero, List.set_cons_succ])); (refine hk_take (i := 7) (v := ?_) rfl (by kernel_rfl) (by kernel_rfl) (by kernel_rfl) (fun _ _ _ h => h) (Or.inl ⟨by rfl, ?_⟩) hHeld ?_; rotate_left 1; (intro w_ hSw_; go_simp; with_reducible rfl); (try simp only [Act.put, List.setIfInBounds_toArray, List.set_cons_zero, List.set_cons_succ]))
      (refine hk_op (i := 6) rfl (by kernel_rfl) (fun K hK => ?_))
      obtain ⟨z_, H, hz_⟩ := hHeld
      refine hs_lit H rfl rfl (by first | (go_simp; done) | (go_simp; rfl)) ?_
      intro g0 W_ H_
      clear H
      have H := H_
      clear H_
      refine hK.out _ _ ⟨z_, H.sub (.cons _ (.refl _)), hz_⟩ (fun hHeld => ?_)
      clear hK K
      (try simp only [Act.put, List.setIfInBounds_toArray, List.set_cons_zero, List.set_cons_succ])
      (refine hk_op (i := 8) rfl (by kernel_rfl) (fun K hK => ?_))
      refine hs_app H rfl rfl Try.underlying23 (k := .u8) 1 (by kernel_rfl) (by decide) rfl (by first | exact List.Perm.refl _ | exact List.Perm.swap _ _ _) (lit_own _ _ _) rfl (hi.out.below H.below) (by have := hb2.out; omega) (Nat.zero_add _) (List.nil_append _) ?_
      intro gI curI capI W_ hoI H_
      clear H
      have H := H_
      clear H_
      refine hK.out _ _ ⟨z_, H.sub (.cons _ (.refl _)), hz_⟩ (fun hHeld => ?_)
      clear hK K
      (try simp only [Act.put, List.setIfInBounds_toArray, List.set_cons_zero, List.set_cons_succ])
      (refine hk_take (i := 9) (v := ?_) rfl (by kernel_rfl) (by kernel_rfl) (by kernel_rfl) (fun _ _ _ h => h) (Or.inl ⟨by rfl, ?_⟩) hHeld ?_; rotate_left 1; (intro w_ hSw_; go_simp; with_reducible rfl); (try simp only [Act.put, List.setIfInBounds_toArray, List.set_cons_zero, List.set_cons_succ]))
      (refine hk_op (i := 10) rfl (by kernel_rfl) (fun K hK => ?_))
      refine hs_store H rfl rfl rfl rfl (n := 2) rfl (v := .agg (SV.c ⟨mv.entry, List.replicate 16 0, ⟨none, 0, 0⟩, mv.write, ⟨some ⟨gX, 0, none⟩, mv.data.n + i, capX⟩, ⟨some ⟨gI, 0, none⟩, n, capI⟩, ⟨none, 0, 0⟩, false, 0, 0⟩)) rfl (by kernel_rfl) (by rw [hz_]; rfl) (by rfl) (sv_all _ hz_) rfl ?_
      intro W_ H_
      clear H
      have H := H_
      clear H_
      refine hK.out _ _ ⟨_, H.sub (.cons _ (.refl _)), rfl⟩ (fun hHeld => ?_)
      clear hK K
      (try simp only [Act.put, List.setIfInBounds_toArray, List.set_cons_zero, List.set_cons_succ])
      (refine wpAnyH_done (by kernel_rfl) ?_ _)
      go_wp2_with ((first | ((with_reducible refine gate_guardG ?_); refine hp_guardLG rfl rfl ?_; (with_reducible first | refine go_tt ?_ | refine go_ff ?_ | refine go_tf ?_ | refine go_ft ?_))); (try simp only [Act.put, List.setIfInBounds_toArray, List.set_cons_zero, List.set_cons_succ]))
      replace H : Hp w _ [(gI, curI, 5), (gX, curX, 5), (gr, SV.c ⟨mv.entry, List.replicate 16 0, ⟨none, 0, 0⟩, mv.write, ⟨some ⟨gX, 0, none⟩, mv.data.n + i, capX⟩, ⟨some ⟨gI, 0, none⟩, n, capI⟩, ⟨none, 0, 0⟩, false, 0, 0⟩, 37), (gm, mv.c, 25)] := H
      exact (bodyPost_ret (results_cell_row rfl _ _ _ 37 _ (0, 0) _ rfl (H.heap (by repeat (first | exact .head _ | refine .tail _ ?_))) Try.underlying37 rfl (by kernel_rfl)) rfl ⟨⟨mv.entry, List.replicate 16 0, ⟨none, 0, 0⟩, mv.write, ⟨some ⟨gX, 0, none⟩, mv.data.n + i, capX⟩, ⟨some ⟨gI, 0, none⟩, n, capI⟩, ⟨none, 0, 0⟩, false, 0, 0⟩, rfl, ⟨rfl, rfl, rfl, RdS.nil _ _, rfl, H.rdsO (g := gX) (by repeat (first | exact .head _ | refine .tail _ ?_)) hoX.out, H.rdsO (g := gI) (by repeat (first | exact .head _ | refine .tail _ ?_)) hoI, RdS.nil _ _, rfl, rfl, rfl⟩, H.below⟩)
end Go.Proofs.Ytcagccodmmcnfaa.Cpu
end
