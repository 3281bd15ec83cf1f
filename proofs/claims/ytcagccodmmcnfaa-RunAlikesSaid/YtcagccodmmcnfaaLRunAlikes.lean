/- Several texts in one. Own work; written by merge.py. -/
import Derived.Test.YtcagccodmmcnfaaMxH
import Derived.Test.YtcagccodmmcnfaaMxG
import Derived.Test.YtcagccodmmcnfaaRows
import Derived.WalkKit
import Derived.ProofKit
import Derived.OpenShut
import Derived.ShutString
import Derived.ChangeOld
import Derived.Below
import Derived.SizedLaws
section
/- A trace handed in, opened. Own work; a template. -/
namespace Go.Proofs.Ytcagccodmmcnfaa.Cpu
open Go.RowKit Go.Proofs.YtcagccodmmcnfaaW.PrintWords Go.Proofs.YtcagccodmmcnfaaW.PrintLast Go.Proofs.YtcagccodmmcnfaaW.PrintMore Go.Proofs.Ytcagccodmmcnfaa.Hp Go.Proofs.Ytcagccodmmcnfaa.Q
set_option linter.unusedVariables false
set_option maxRecDepth 100000 in
set_option maxHeartbeats 4000000 in
theorem tr_open {H : Type} {enc : TypeId × Value → H} {W : World} {base : Nat} {spare : Nat → Bool} {held : Bool} {fuel : Nat} {cs : List Value} {x : DataW H × List MemPlace} (h : DataW.trod enc Try.prog W base spare held fuel 30 cs = some x) (hw : ∀ n ∈ x.1.weights Try.prog 30, n ≤ 140737488351232) :
    ∃ (s : TV) (t : Tr), cs = s.c.toList ∧ RdT W s t := by
  obtain ⟨xs, n, rfl, rfl, hl, hxl, hf⟩ := DataW.trod_struct Try.underlying30 h
  have hl' : cs.length = 6 := hl.trans (by kernel_rfl)
  have hxl' : xs.length = 6 := hxl
  have c3 : Try.prog.cellsOf 3 = 1 := by kernel_rfl
  have c4 : Try.prog.cellsOf 4 = 1 := by kernel_rfl
  have c23 : Try.prog.cellsOf 23 = 1 := by kernel_rfl
  have c26 : Try.prog.cellsOf 28 = 1 := by kernel_rfl
  have c5 : Try.prog.cellsOf 5 = 1 := by kernel_rfl
  have b5 : Try.prog.bytesOf 5 = 1 := by kernel_rfl
  match xs, hxl' with
  | [x0, x1, x2, x3, x4, x5], _ =>
    simp only [DataW.weights, Try.underlying30] at hw
    have hwe : ∀ (j : Nat) (ty : TypeId) (d : DataW H), ([23, 4, 28, 3, 23, 3] : List TypeId)[j]? = some ty → (([x0, x1, x2, x3, x4, x5] : List (DataW H × List MemPlace)).map (fun z => z.1))[j]? = some d → ∀ m ∈ DataW.weights Try.prog ty d, m ≤ 140737488351232 := fun j ty d ht hd m hm => hw m (DataW.weights_mem_each ht hd m hm)
    match cs, hl' with
    | [v0, v1, v2, v3, v4, v5], _ =>
      have f0 : DataW.trod enc Try.prog W base spare held n 23 [v0] = some x0 := fld hf 0 rfl rfl rfl (n := 1) c23 rfl rfl
      have f1 : DataW.trod enc Try.prog W base spare held n 4 [v1] = some x1 := fld hf 1 rfl rfl rfl (n := 1) c4 rfl rfl
      have f2 : DataW.trod enc Try.prog W base spare held n 28 [v2] = some x2 := fld hf 2 rfl rfl rfl (n := 1) c26 rfl rfl
      have f3 : DataW.trod enc Try.prog W base spare held n 3 [v3] = some x3 := fld hf 3 rfl rfl rfl (n := 1) c3 rfl rfl
      have f4 : DataW.trod enc Try.prog W base spare held n 23 [v4] = some x4 := fld hf 4 rfl rfl rfl (n := 1) c23 rfl rfl
      have f5 : DataW.trod enc Try.prog W base spare held n 3 [v5] = some x5 := fld hf 5 rfl rfl rfl (n := 1) c3 rfl rfl
      obtain ⟨Ao, no, co, lo, eo, ho, wo, zo⟩ := sl_open Try.underlying23 Try.underlying5 c5 b5 f0 (hwe 0 _ _ rfl rfl)
      obtain ⟨be, eb, _⟩ := DataW.trod_bool Try.underlying4 f1
      obtain ⟨r2, rfl, w2⟩ := int_open Try.underlying28 f2
      obtain ⟨r3, rfl, w3⟩ := int_open Try.underlying3 f3
      obtain ⟨Am, nm, cm, lm, em, hm, wm, zm⟩ := sl_open Try.underlying23 Try.underlying5 c5 b5 f4 (hwe 4 _ _ rfl rfl)
      obtain ⟨r5, rfl, w5⟩ := int_open Try.underlying3 f5
      simp only [List.cons.injEq, and_true] at eo em eb
      subst eo em eb
      exact ⟨⟨⟨Ao, no, co⟩, be, r2, r3, ⟨Am, nm, cm⟩, r5⟩, ⟨lo, be, r2, r3, lm, r5⟩, rfl, ho, rfl, rfl, rfl, hm, rfl⟩
theorem tr_trod {H : Type} {enc : TypeId × Value → H} {W : World} {base : Nat} {spare : Nat → Bool} {held : Bool} {v : Value} {d : DataW H} {ps : List MemPlace} {ts : List TypeId} {ds : List (DataW H)} {j : Nat}
    (hsz : (DataW.weightsEach Try.prog ts ds).all (· ≤ reachBytes) = true) (ht : ts[j]? = some 30) (hd : ds[j]? = some d) (hr : DataW.Trod enc Try.prog W base spare held 30 v d ps) : ∃ (s : TV) (t : Tr), v.cells.toList = s.c.toList ∧ RdT W s t := by
  obtain ⟨fuel, hf⟩ := hr
  exact tr_open hf (fun n hn => of_decide_eq_true (List.all_eq_true.1 hsz n (DataW.weights_mem_each ht hd n hn)))
end Go.Proofs.Ytcagccodmmcnfaa.Cpu
end
section
/- The law RunAlikes: its contract. Own work; a template, printed by gen_run.py. -/
namespace Go.Proofs.Ytcagccodmmcnfaa.Cpu
open Go.RowKit Go.Proofs.YtcagccodmmcnfaaW.PrintWords Go.Proofs.YtcagccodmmcnfaaW.PrintLast Go.Proofs.YtcagccodmmcnfaaW.PrintMore Go.Proofs.Ytcagccodmmcnfaa.Hp Go.Proofs.Ytcagccodmmcnfaa.Q
set_option linter.unusedVariables false
set_option linter.unusedSimpArgs false
attribute [local go_sem] add_any
set_option maxHeartbeats 40000000 in
set_option maxRecDepth 100000 in
theorem alikes_turned (s u : TV) (t v : Tr) (w : World) (h : Aside0 (RdT w s t)) (k : Aside0 (RdT w u v)) (b1 b2 b3 b4 : Bool) (h1 : decide ((s.out.n : Int) > 300) = b1) (h1' : decide (300 < s.out.n) = b1) (h2 : decide ((u.out.n : Int) > 300) = b2) (h2' : decide (300 < u.out.n) = b2) (h3 : decide ((s.mem.n : Int) > 300) = b3) (h3' : decide (300 < s.mem.n) = b3) (h4 : decide ((u.mem.n : Int) > 300) = b4) (h4' : decide (300 < u.mem.n) = b4) (hq : (b1 || b2 || b3 || b4) = true) :
    Calls Try.prog 5 #[.agg s.c, .agg u.c] w fun e w' => e = .returned (.bool true) ∧ Below w.heap.size w w' := by
  have H := Hp.nil w
  cases b1 <;> cases b2 <;> cases b3 <;> cases b4 <;> first | (exfalso; revert hq; decide) | skip
  all_goals clear hq
  all_goals go_enter Try.func5, Try.ntmps5
  all_goals go_wp2_with (first | ((with_reducible refine gate_guardG ?_); refine hp_guardLG rfl rfl ?_; (with_reducible first | refine go_tt ?_ | refine go_ff ?_ | refine go_tf ?_ | refine go_ft ?_); (try simp only [Act.put, List.setIfInBounds_toArray, List.set_cons_zero, List.set_cons_succ])) | ((with_reducible refine gate_boxG ?_); (refine hp_boxG H rfl rfl rfl ?_; intro g_ W_ H_; clear H; have H := H_; clear H_); (try simp only [Act.put, List.setIfInBounds_toArray, List.set_cons_zero, List.set_cons_succ])) | ((with_reducible refine gate_loadG ?_); (refine hp_loadG H rfl rfl rfl (by repeat (first | exact .head _ | refine .tail _ ?_)) (by kernel_rfl) (by first | exact v_out _ | exact v_mem _) ?_); (try simp only [Act.put, List.setIfInBounds_toArray, List.set_cons_zero, List.set_cons_succ])) | ((with_reducible refine gate_fnG ?_); (refine hp_goesG H rfl (f := 8) rfl Try.func8 (by kernel_rfl) rfl (awake7_c _) (by (try simp only [List.map_toArray, List.map_cons, List.map_nil]); first | done | rfl) ?_; rintro e_ W_ ⟨rfl, hb_⟩; refine ⟨_, rfl, hb_, fun H_ => ?_⟩; clear H; have H := H_; clear H_); (try simp only [Act.put, List.setIfInBounds_toArray, List.set_cons_zero, List.set_cons_succ])))
  all_goals go_ret
  all_goals exact ⟨rfl, H.below⟩
set_option maxHeartbeats 40000000 in
set_option maxRecDepth 100000 in
theorem alikes_main (s u : TV) (t v : Tr) (w : World) (h : Aside0 (RdT w s t)) (k : Aside0 (RdT w u v)) (h1 : decide ((s.out.n : Int) > 300) = false) (h1' : decide (300 < s.out.n) = false) (h2 : decide ((u.out.n : Int) > 300) = false) (h2' : decide (300 < u.out.n) = false) (h3 : decide ((s.mem.n : Int) > 300) = false) (h3' : decide (300 < s.mem.n) = false) (h4 : decide ((u.mem.n : Int) > 300) = false) (h4' : decide (300 < u.mem.n) = false) :
    Calls Try.prog 5 #[.agg s.c, .agg u.c] w fun e w' => e = .returned (.bool true) ∧ Below w.heap.size w w' := by
  have H := Hp.nil w
  have hr' : alikeF t v = alikeF t v := rfl
  generalize hrr : alikeF t v = r at hr'
  have hr2 := Aside0.mk hrr
  clear hr'
  have hr' := hrr
  clear hrr
  unfold alikeF at hr'
  rw [← h.out.en, ← k.out.en, ← h.out.code, ← k.out.code, ← h.out.flt, ← k.out.flt] at hr'
  cases c0 : (t.out == v.out)
  obtain rfl : false = r := by
    rw [← hr']
    simp only [c0, Bool.true_and, Bool.false_and]
  clear hr'
  replace c0 := Aside0.mk c0
  rotate_left
  replace c0 := Aside0.mk c0
  cases c1 : (s.en == u.en)
  obtain rfl : false = r := by
    rw [← hr']
    simp only [c0.out, c1, Bool.true_and, Bool.false_and]
  clear hr'
  rotate_left
  cases c2 : (s.code == u.code)
  obtain rfl : false = r := by
    rw [← hr']
    simp only [c0.out, c1, c2, Bool.true_and, Bool.false_and]
  clear hr'
  rotate_left
  cases c3 : (s.flt == u.flt)
  obtain rfl : false = r := by
    rw [← hr']
    simp only [c0.out, c1, c2, c3, Bool.true_and, Bool.false_and]
  clear hr'
  rotate_left
  cases c4 : (t.mem == v.mem)
  obtain rfl : false = r := by
    rw [← hr']
    simp only [c0.out, c1, c2, c3, c4, Bool.true_and, Bool.false_and]
  clear hr'
  replace c4 := Aside0.mk c4
  rotate_left
  replace c4 := Aside0.mk c4
  obtain rfl : true = r := by
    rw [← hr']
    simp only [c0.out, c1, c2, c3, c4.out, Bool.true_and]
  clear hr'
  all_goals go_enter Try.func5, Try.ntmps5
  all_goals go_wp2_with (first | ((with_reducible refine gate_guardG ?_); refine hp_guardLG rfl rfl ?_; (with_reducible first | refine go_tt ?_ | refine go_ff ?_ | refine go_tf ?_ | refine go_ft ?_); (try simp only [Act.put, List.setIfInBounds_toArray, List.set_cons_zero, List.set_cons_succ])) | ((with_reducible refine gate_dst (N := 2) rfl ?_); refine hp_box H rfl rfl rfl ?_; intro ga W_ H_; clear H; have H := H_; clear H_) | ((with_reducible refine gate_dst (N := 3) rfl ?_); refine hp_box H rfl rfl rfl ?_; intro gb W_ H_; clear H; have H := H_; clear H_) | ((with_reducible refine gate_dst (N := 6) rfl ?_); refine hp_alloc H rfl rfl (fun w_ => by go_simp; rfl) ?_; intro gc W_ H_; clear H; have H := H_; clear H_) | ((with_reducible refine gate_loadG ?_); (first | (refine hp_wholeG H rfl (ty := 30) rfl rfl (by repeat (first | exact .head _ | refine .tail _ ?_)) (by kernel_rfl) (by kernel_rfl) ?_)); (try simp only [Act.put, List.setIfInBounds_toArray, List.set_cons_zero, List.set_cons_succ])) | ((with_reducible refine gate_loadG ?_); (refine hp_loadG H rfl rfl rfl (by repeat (first | exact .head _ | refine .tail _ ?_)) (by kernel_rfl) (by first | exact v_out _ | exact v_en _ | exact v_code _ | exact v_flt _ | exact v_mem _ | exact v_steps _) ?_); (try simp only [Act.put, List.setIfInBounds_toArray, List.set_cons_zero, List.set_cons_succ])) | ((with_reducible refine gate_fnG ?_); (refine hp_goesG H rfl (f := 8) rfl Try.func8 (by kernel_rfl) rfl (awake7_c _) (by (try simp only [List.map_toArray, List.map_cons, List.map_nil]); first | done | rfl) ?_; rintro e_ W_ ⟨rfl, hb_⟩; refine ⟨_, rfl, hb_, fun H_ => ?_⟩; clear H; have H := H_; clear H_); (try simp only [Act.put, List.setIfInBounds_toArray, List.set_cons_zero, List.set_cons_succ])) | ((with_reducible refine gate_dst (N := 38) rfl ?_); ((with_reducible refine gate_fnG ?_); (refine hp_goesG H rfl (f := 14) rfl Try.func14 (by kernel_rfl) rfl (rsame_c ((h.out.out).below H.below) ((k.out.out).below H.below) c0.out) (by (try simp only [List.map_toArray, List.map_cons, List.map_nil]); first | done | rfl) ?_; rintro e_ W_ ⟨rfl, hb_⟩; refine ⟨_, rfl, hb_, fun H_ => ?_⟩; clear H; have H := H_; clear H_); (try simp only [Act.put, List.setIfInBounds_toArray, List.set_cons_zero, List.set_cons_succ]))) | ((with_reducible refine gate_dst (N := 65) rfl ?_); ((with_reducible refine gate_fnG ?_); (refine hp_goesG H rfl (f := 14) rfl Try.func14 (by kernel_rfl) rfl (rsame_c ((h.out.mem).below H.below) ((k.out.mem).below H.below) c4.out) (by (try simp only [List.map_toArray, List.map_cons, List.map_nil]); first | done | rfl) ?_; rintro e_ W_ ⟨rfl, hb_⟩; refine ⟨_, rfl, hb_, fun H_ => ?_⟩; clear H; have H := H_; clear H_); (try simp only [Act.put, List.setIfInBounds_toArray, List.set_cons_zero, List.set_cons_succ]))) | ((with_reducible refine gate_storeG ?_); ((first | (refine hp_store0G H rfl rfl rfl rfl rfl (by kernel_rfl) (by first | rfl | exact fit_.out) (by rfl) (by first | exact tv_all _ rfl | exact tv_steps _ _) ?_)); intro W_ H_; clear H; have H := H_; clear H_); (try simp only [Act.put, List.setIfInBounds_toArray, List.set_cons_zero, List.set_cons_succ])) | ((with_reducible refine gate_dst (N := 73) rfl ?_); ((with_reducible refine gate_fnG ?_); (refine hp_goesG H rfl (f := 17) rfl Try.func17 (by kernel_rfl) rfl (alike_c s u t v _ ⟨h.out.below H.below⟩ ⟨k.out.below H.below⟩ hr2.out) (by (try simp only [List.map_toArray, List.map_cons, List.map_nil]); first | done | rfl) ?_; rintro e_ W_ ⟨rfl, hb_⟩; refine ⟨_, rfl, hb_, fun H_ => ?_⟩; clear H; have H := H_; clear H_); (try simp only [Act.put, List.setIfInBounds_toArray, List.set_cons_zero, List.set_cons_succ]))) | ((with_reducible refine gate_dst (N := 79) rfl ?_); ((with_reducible refine gate_fnG ?_); (refine hp_goesG H rfl (f := 17) rfl Try.func17 (by kernel_rfl) rfl (alike_c s { s with steps := u.steps } t { t with steps := v.steps } _ ⟨h.out.below H.below⟩ ⟨⟨(h.out.below H.below).out, h.out.en, h.out.code, h.out.flt, (h.out.below H.below).mem, k.out.steps⟩⟩ (alikeF_refl t)) (by (try simp only [List.map_toArray, List.map_cons, List.map_nil]); first | done | rfl) ?_; rintro e_ W_ ⟨rfl, hb_⟩; refine ⟨_, rfl, hb_, fun H_ => ?_⟩; clear H; have H := H_; clear H_); (try simp only [Act.put, List.setIfInBounds_toArray, List.set_cons_zero, List.set_cons_succ]))))
  all_goals go_ret
  all_goals exact ⟨rfl, H.below⟩
theorem alikes_c (s u : TV) (t v : Tr) (w : World) (h : RdT w s t) (k : RdT w u v) :
    Calls Try.prog 5 #[.agg s.c, .agg u.c] w fun e w' => e = .returned (.bool true) ∧ Below w.heap.size w w' := by
  have q : ∀ n : Nat, decide ((n : Int) > 300) = decide (300 < n) := fun n => decide_eq_decide.2 (by omega)
  by_cases hq : (decide (300 < s.out.n) || decide (300 < u.out.n) || decide (300 < s.mem.n) || decide (300 < u.mem.n)) = true
  · exact alikes_turned s u t v w ⟨h⟩ ⟨k⟩ _ _ _ _ (q _) rfl (q _) rfl (q _) rfl (q _) rfl hq
  · simp only [Bool.not_eq_true, Bool.or_eq_false_iff] at hq
    obtain ⟨⟨⟨a1, a2⟩, a3⟩, a4⟩ := hq
    exact alikes_main s u t v w ⟨h⟩ ⟨k⟩ ((q _).trans a1) a1 ((q _).trans a2) a2 ((q _).trans a3) a3 ((q _).trans a4) a4
end Go.Proofs.Ytcagccodmmcnfaa.Cpu
end
section
/- The row of the law RunAlikes: whatever its arguments, the call returns true, and each argument reads behind it as it read before. No conditions. A template, printed by gen_row06.py. -/
namespace Go.Proofs.Ytcagccodmmcnfaa.runAlikes
open Go.ChangeShapes Go.WideShapes Go.ChangeAt Go.RowKit Go.Proofs.Ytcagccodmmcnfaa.Q Go.Proofs.Ytcagccodmmcnfaa.Cpu Go.Proofs.Ytcagccodmmcnfaa.Hp Go.Proofs.YtcagccodmmcnfaaW.PrintWords
open Go.ChangeMaps (open_string shut_string)
set_option linter.unusedVariables false
theorem own : ownKnob Try.prog.godebug = none := by kernel_rfl
theorem laidOut : laidOutB Try.prog = true := by kernel_rfl
set_option maxRecDepth 100000 in
set_option maxHeartbeats 4000000 in
theorem lifted (os : Os) (started : os.Started) (H : Type) (enc : TypeId × Value → H) :
    ReturnsInHanded {} Try.checked os 5 .any (Rows.runAlikesSpec.pre6 enc Try.prog Try.f5 Rows.runAlikesRow.domain false) (Rows.runAlikesSpec.post enc Try.prog Try.f5 false true false false) := by
  refine returnsInHanded_of_change_sized (C := Try.checked) own started (by kernel_rfl) Try.func5
    (ChangeSpec.witness6 (enc := enc) (C := Try.checked) false ⟨#[], #[(.agg #[.slice none 0 0, .bool false, .int .u32 0, .int .i64 0, .slice none 0 0, .int .i64 0]), (.agg #[.slice none 0 0, .bool false, .int .u32 0, .int .i64 0, .slice none 0 0, .int .i64 0])], []⟩ 8 (by kernel_rfl) (by kernel_rfl) (by kernel_rfl) (by kernel_rfl)) ?_
  intro W base args ds gs before hval0 hW hcnd hsz0 _
  have hsz : (DataW.weightsEach Try.prog (Try.f5.params.toList ++ Rows.runAlikesSpec.plain.varTypes Try.prog) (ds ++ gs)).all (· ≤ reachBytes) = true := hsz0
  have hval : ∀ (j : Nat) t v, Try.f5.params[j]? = some t → args[j]? = some v → Value.okWide Try.prog W .any base t v := hval0
  have hW' := hW
  obtain ⟨p, q, hA0, hV, rfl, hfz, hnd⟩ := hW
  have hA : DataW.TrodAll enc Try.prog W 0 (fun _ => true) true Try.f5.params.toList args.toList ds p := hA0
  rw [Try.params5] at hA hval hsz
  obtain ⟨v0, vs0, d0, ds0, p0, q0, hargs, rfl, rfl, h0, r0⟩ := trodAll_cons hA
  obtain ⟨v1, vs1, d1, ds1, p1, q1, rfl, rfl, rfl, h1, r1⟩ := trodAll_cons r0
  obtain ⟨rfl, rfl, rfl⟩ := trodAll_nil r1
  obtain rfl : args = #[v0, v1] := by cases args; simp_all
  obtain ⟨rfl, rfl⟩ := trodVars_none hV
  have k0 := h0
  have lt0 : ∀ x ∈ p0, x.block < W.heap.size := by obtain ⟨m, hm⟩ := k0; exact DataW.trod_lt m _ _ _ hm
  obtain ⟨cs0, rfl, sz0⟩ := okWide_struct Try.underlying30 (hval 0 30 v0 rfl rfl)
  obtain ⟨s0, t0, e0, hr0⟩ := tr_trod hsz (j := 0) rfl rfl h0
  obtain rfl : cs0 = s0.c := by apply Array.ext'; exact e0
  have k1 := h1
  have lt1 : ∀ x ∈ p1, x.block < W.heap.size := by obtain ⟨m, hm⟩ := k1; exact DataW.trod_lt m _ _ _ hm
  obtain ⟨cs1, rfl, sz1⟩ := okWide_struct Try.underlying30 (hval 1 30 v1 rfl rfl)
  obtain ⟨s1, t1, e1, hr1⟩ := tr_trod hsz (j := 1) rfl rfl h1
  obtain rfl : cs1 = s1.c := by apply Array.ext'; exact e1
  clear hA0 hval0 hsz0 hsz
  refine (alikes_c _ _ t0 t1 W hr0 hr1).mono ?_
  rintro e W' ⟨rfl, bel⟩
  exact ⟨_, rfl, _, _, _, [], _, [], hW', trodAll_mk1 (shut_bool Try.underlying4 _), (trodAll_cons_mk (Below.trod laidOut (by kernel_rfl) (of_decide_eq_true (by kernel_rfl)) k0 bel lt0) (trodAll_cons_mk (Below.trod laidOut (by kernel_rfl) (of_decide_eq_true (by kernel_rfl)) k1 bel lt1) trodAll_mk0)), rfl, bel.frame _, fun h => by cases h⟩
theorem over : Rows.runAlikesRow.holds Try.pinned (OpenSpec.ofChange Rows.runAlikesSpec) :=
  OpenClaim.holds_of_wide 5 Try.f5 rfl rfl rfl rfl rfl rfl rfl ⟨rfl, rfl, rfl, rfl, rfl⟩ rfl rfl rfl rfl rfl (by kernel_rfl) Try.func5 (by kernel_rfl)
    (of_decide_eq_true (by kernel_rfl)) (by unfold Func.isWrapper; first | (rw [if_pos (by decide +kernel)]; kernel_rfl) | (rw [if_neg (by decide +kernel)]; exact ⟨rfl, rfl⟩))
    (fun os started H enc _ => lifted os started H enc)
theorem proved : Rows.RunAlikesSaid := over
#print axioms proved
end Go.Proofs.Ytcagccodmmcnfaa.runAlikes
namespace Go.Proofs.Ytcagccodmmcnfaa
theorem runAlikes_holds : Rows.RunAlikesSaid := runAlikes.proved
end Go.Proofs.Ytcagccodmmcnfaa
end