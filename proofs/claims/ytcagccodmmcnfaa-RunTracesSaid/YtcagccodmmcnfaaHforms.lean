/- code.forms: the table of all operations, as the model's call of it tells it. -/
import Derived.Test.YtcagccodmmcnfaaOpn
import Derived.Deep.WholeRow
namespace Go.Proofs.Ytcagccodmmcnfaa.Q
open Go.RowKit Go.Proofs.YtcagccodmmcnfaaW.PrintWords Go.Proofs.YtcagccodmmcnfaaW.PrintLast Go.Proofs.YtcagccodmmcnfaaW.PrintMore
set_option linter.unusedVariables false
set_option linter.unusedSimpArgs false

theorem forms_i0 (w : World) : (Instr.index 84 (.agg formCells) (.int .i64 (0 : Nat))).run Try.prog w = .ok (.agg #[.bool (form_a (0 : Nat)), .bool (form_b (0 : Nat)), .bool (form_c (0 : Nat)), .int .i64 (form_w (0 : Nat)), .bool (form_p (0 : Nat))]) w := by kernel_rfl
theorem forms_i1 (w : World) : (Instr.index 84 (.agg formCells) (.int .i64 (1 : Nat))).run Try.prog w = .ok (.agg #[.bool (form_a (1 : Nat)), .bool (form_b (1 : Nat)), .bool (form_c (1 : Nat)), .int .i64 (form_w (1 : Nat)), .bool (form_p (1 : Nat))]) w := by kernel_rfl
theorem forms_i2 (w : World) : (Instr.index 84 (.agg formCells) (.int .i64 (2 : Nat))).run Try.prog w = .ok (.agg #[.bool (form_a (2 : Nat)), .bool (form_b (2 : Nat)), .bool (form_c (2 : Nat)), .int .i64 (form_w (2 : Nat)), .bool (form_p (2 : Nat))]) w := by kernel_rfl
theorem forms_i3 (w : World) : (Instr.index 84 (.agg formCells) (.int .i64 (3 : Nat))).run Try.prog w = .ok (.agg #[.bool (form_a (3 : Nat)), .bool (form_b (3 : Nat)), .bool (form_c (3 : Nat)), .int .i64 (form_w (3 : Nat)), .bool (form_p (3 : Nat))]) w := by kernel_rfl
theorem forms_i4 (w : World) : (Instr.index 84 (.agg formCells) (.int .i64 (4 : Nat))).run Try.prog w = .ok (.agg #[.bool (form_a (4 : Nat)), .bool (form_b (4 : Nat)), .bool (form_c (4 : Nat)), .int .i64 (form_w (4 : Nat)), .bool (form_p (4 : Nat))]) w := by kernel_rfl
theorem forms_i5 (w : World) : (Instr.index 84 (.agg formCells) (.int .i64 (5 : Nat))).run Try.prog w = .ok (.agg #[.bool (form_a (5 : Nat)), .bool (form_b (5 : Nat)), .bool (form_c (5 : Nat)), .int .i64 (form_w (5 : Nat)), .bool (form_p (5 : Nat))]) w := by kernel_rfl
theorem forms_i6 (w : World) : (Instr.index 84 (.agg formCells) (.int .i64 (6 : Nat))).run Try.prog w = .ok (.agg #[.bool (form_a (6 : Nat)), .bool (form_b (6 : Nat)), .bool (form_c (6 : Nat)), .int .i64 (form_w (6 : Nat)), .bool (form_p (6 : Nat))]) w := by kernel_rfl
theorem forms_i7 (w : World) : (Instr.index 84 (.agg formCells) (.int .i64 (7 : Nat))).run Try.prog w = .ok (.agg #[.bool (form_a (7 : Nat)), .bool (form_b (7 : Nat)), .bool (form_c (7 : Nat)), .int .i64 (form_w (7 : Nat)), .bool (form_p (7 : Nat))]) w := by kernel_rfl
theorem forms_i8 (w : World) : (Instr.index 84 (.agg formCells) (.int .i64 (8 : Nat))).run Try.prog w = .ok (.agg #[.bool (form_a (8 : Nat)), .bool (form_b (8 : Nat)), .bool (form_c (8 : Nat)), .int .i64 (form_w (8 : Nat)), .bool (form_p (8 : Nat))]) w := by kernel_rfl
theorem forms_i9 (w : World) : (Instr.index 84 (.agg formCells) (.int .i64 (9 : Nat))).run Try.prog w = .ok (.agg #[.bool (form_a (9 : Nat)), .bool (form_b (9 : Nat)), .bool (form_c (9 : Nat)), .int .i64 (form_w (9 : Nat)), .bool (form_p (9 : Nat))]) w := by kernel_rfl
theorem forms_i10 (w : World) : (Instr.index 84 (.agg formCells) (.int .i64 (10 : Nat))).run Try.prog w = .ok (.agg #[.bool (form_a (10 : Nat)), .bool (form_b (10 : Nat)), .bool (form_c (10 : Nat)), .int .i64 (form_w (10 : Nat)), .bool (form_p (10 : Nat))]) w := by kernel_rfl
theorem forms_i11 (w : World) : (Instr.index 84 (.agg formCells) (.int .i64 (11 : Nat))).run Try.prog w = .ok (.agg #[.bool (form_a (11 : Nat)), .bool (form_b (11 : Nat)), .bool (form_c (11 : Nat)), .int .i64 (form_w (11 : Nat)), .bool (form_p (11 : Nat))]) w := by kernel_rfl
theorem forms_i12 (w : World) : (Instr.index 84 (.agg formCells) (.int .i64 (12 : Nat))).run Try.prog w = .ok (.agg #[.bool (form_a (12 : Nat)), .bool (form_b (12 : Nat)), .bool (form_c (12 : Nat)), .int .i64 (form_w (12 : Nat)), .bool (form_p (12 : Nat))]) w := by kernel_rfl
theorem forms_i13 (w : World) : (Instr.index 84 (.agg formCells) (.int .i64 (13 : Nat))).run Try.prog w = .ok (.agg #[.bool (form_a (13 : Nat)), .bool (form_b (13 : Nat)), .bool (form_c (13 : Nat)), .int .i64 (form_w (13 : Nat)), .bool (form_p (13 : Nat))]) w := by kernel_rfl
theorem forms_i14 (w : World) : (Instr.index 84 (.agg formCells) (.int .i64 (14 : Nat))).run Try.prog w = .ok (.agg #[.bool (form_a (14 : Nat)), .bool (form_b (14 : Nat)), .bool (form_c (14 : Nat)), .int .i64 (form_w (14 : Nat)), .bool (form_p (14 : Nat))]) w := by kernel_rfl
theorem forms_i15 (w : World) : (Instr.index 84 (.agg formCells) (.int .i64 (15 : Nat))).run Try.prog w = .ok (.agg #[.bool (form_a (15 : Nat)), .bool (form_b (15 : Nat)), .bool (form_c (15 : Nat)), .int .i64 (form_w (15 : Nat)), .bool (form_p (15 : Nat))]) w := by kernel_rfl
theorem forms_i16 (w : World) : (Instr.index 84 (.agg formCells) (.int .i64 (16 : Nat))).run Try.prog w = .ok (.agg #[.bool (form_a (16 : Nat)), .bool (form_b (16 : Nat)), .bool (form_c (16 : Nat)), .int .i64 (form_w (16 : Nat)), .bool (form_p (16 : Nat))]) w := by kernel_rfl
theorem forms_i17 (w : World) : (Instr.index 84 (.agg formCells) (.int .i64 (17 : Nat))).run Try.prog w = .ok (.agg #[.bool (form_a (17 : Nat)), .bool (form_b (17 : Nat)), .bool (form_c (17 : Nat)), .int .i64 (form_w (17 : Nat)), .bool (form_p (17 : Nat))]) w := by kernel_rfl
theorem forms_i18 (w : World) : (Instr.index 84 (.agg formCells) (.int .i64 (18 : Nat))).run Try.prog w = .ok (.agg #[.bool (form_a (18 : Nat)), .bool (form_b (18 : Nat)), .bool (form_c (18 : Nat)), .int .i64 (form_w (18 : Nat)), .bool (form_p (18 : Nat))]) w := by kernel_rfl
theorem forms_i19 (w : World) : (Instr.index 84 (.agg formCells) (.int .i64 (19 : Nat))).run Try.prog w = .ok (.agg #[.bool (form_a (19 : Nat)), .bool (form_b (19 : Nat)), .bool (form_c (19 : Nat)), .int .i64 (form_w (19 : Nat)), .bool (form_p (19 : Nat))]) w := by kernel_rfl
theorem forms_i20 (w : World) : (Instr.index 84 (.agg formCells) (.int .i64 (20 : Nat))).run Try.prog w = .ok (.agg #[.bool (form_a (20 : Nat)), .bool (form_b (20 : Nat)), .bool (form_c (20 : Nat)), .int .i64 (form_w (20 : Nat)), .bool (form_p (20 : Nat))]) w := by kernel_rfl
theorem forms_i21 (w : World) : (Instr.index 84 (.agg formCells) (.int .i64 (21 : Nat))).run Try.prog w = .ok (.agg #[.bool (form_a (21 : Nat)), .bool (form_b (21 : Nat)), .bool (form_c (21 : Nat)), .int .i64 (form_w (21 : Nat)), .bool (form_p (21 : Nat))]) w := by kernel_rfl
theorem forms_i22 (w : World) : (Instr.index 84 (.agg formCells) (.int .i64 (22 : Nat))).run Try.prog w = .ok (.agg #[.bool (form_a (22 : Nat)), .bool (form_b (22 : Nat)), .bool (form_c (22 : Nat)), .int .i64 (form_w (22 : Nat)), .bool (form_p (22 : Nat))]) w := by kernel_rfl
theorem forms_i23 (w : World) : (Instr.index 84 (.agg formCells) (.int .i64 (23 : Nat))).run Try.prog w = .ok (.agg #[.bool (form_a (23 : Nat)), .bool (form_b (23 : Nat)), .bool (form_c (23 : Nat)), .int .i64 (form_w (23 : Nat)), .bool (form_p (23 : Nat))]) w := by kernel_rfl
theorem forms_i24 (w : World) : (Instr.index 84 (.agg formCells) (.int .i64 (24 : Nat))).run Try.prog w = .ok (.agg #[.bool (form_a (24 : Nat)), .bool (form_b (24 : Nat)), .bool (form_c (24 : Nat)), .int .i64 (form_w (24 : Nat)), .bool (form_p (24 : Nat))]) w := by kernel_rfl
theorem forms_i25 (w : World) : (Instr.index 84 (.agg formCells) (.int .i64 (25 : Nat))).run Try.prog w = .ok (.agg #[.bool (form_a (25 : Nat)), .bool (form_b (25 : Nat)), .bool (form_c (25 : Nat)), .int .i64 (form_w (25 : Nat)), .bool (form_p (25 : Nat))]) w := by kernel_rfl
theorem forms_index (w : World) (n : Nat) (hn : n < 26) : (Instr.index 84 (.agg formCells) (.int .i64 n)).run Try.prog w = .ok (.agg #[.bool (form_a n), .bool (form_b n), .bool (form_c n), .int .i64 (form_w n), .bool (form_p n)]) w := by
  have h : n = 0 ∨ n = 1 ∨ n = 2 ∨ n = 3 ∨ n = 4 ∨ n = 5 ∨ n = 6 ∨ n = 7 ∨ n = 8 ∨ n = 9 ∨ n = 10 ∨ n = 11 ∨ n = 12 ∨ n = 13 ∨ n = 14 ∨ n = 15 ∨ n = 16 ∨ n = 17 ∨ n = 18 ∨ n = 19 ∨ n = 20 ∨ n = 21 ∨ n = 22 ∨ n = 23 ∨ n = 24 ∨ n = 25 := by omega
  rcases h with rfl | rfl | rfl | rfl | rfl | rfl | rfl | rfl | rfl | rfl | rfl | rfl | rfl | rfl | rfl | rfl | rfl | rfl | rfl | rfl | rfl | rfl | rfl | rfl | rfl | rfl
  · exact forms_i0 w
  · exact forms_i1 w
  · exact forms_i2 w
  · exact forms_i3 w
  · exact forms_i4 w
  · exact forms_i5 w
  · exact forms_i6 w
  · exact forms_i7 w
  · exact forms_i8 w
  · exact forms_i9 w
  · exact forms_i10 w
  · exact forms_i11 w
  · exact forms_i12 w
  · exact forms_i13 w
  · exact forms_i14 w
  · exact forms_i15 w
  · exact forms_i16 w
  · exact forms_i17 w
  · exact forms_i18 w
  · exact forms_i19 w
  · exact forms_i20 w
  · exact forms_i21 w
  · exact forms_i22 w
  · exact forms_i23 w
  · exact forms_i24 w
  · exact forms_i25 w
theorem run_field_form (a b c p : Bool) (n : Int) (w : World) : (Instr.field 83 (.agg #[.bool a, .bool b, .bool c, .int .i64 n, .bool p]) 3).run Try.prog w = .ok (.int .i64 n) w := by kernel_rfl
theorem run_index_arV84 (t i : Int) (h0 : decide (0 ≤ i) = true) (h1 : decide (i < 26) = true) (w : World) :
    (Instr.index 84 (arV84 t) (.int .i64 i)).run Try.prog w = .ok (.agg #[.bool (form_a i), .bool (form_b i), .bool (form_c i), .int .i64 (form_w i), .bool (form_p i)]) w := by
  have h0' := of_decide_eq_true h0
  have h1' := of_decide_eq_true h1
  obtain ⟨n, rfl⟩ := Int.eq_ofNat_of_zero_le h0'
  exact forms_index w n (by omega)
def zeroCells : Array Value := #[.bool false, .bool false, .bool false, .int .i64 0, .bool false, .bool false, .bool false, .bool false, .int .i64 0, .bool false, .bool false, .bool false, .bool false, .int .i64 0, .bool false, .bool false, .bool false, .bool false, .int .i64 0, .bool false, .bool false, .bool false, .bool false, .int .i64 0, .bool false, .bool false, .bool false, .bool false, .int .i64 0, .bool false, .bool false, .bool false, .bool false, .int .i64 0, .bool false, .bool false, .bool false, .bool false, .int .i64 0, .bool false, .bool false, .bool false, .bool false, .int .i64 0, .bool false, .bool false, .bool false, .bool false, .int .i64 0, .bool false, .bool false, .bool false, .bool false, .int .i64 0, .bool false, .bool false, .bool false, .bool false, .int .i64 0, .bool false, .bool false, .bool false, .bool false, .int .i64 0, .bool false, .bool false, .bool false, .bool false, .int .i64 0, .bool false, .bool false, .bool false, .bool false, .int .i64 0, .bool false, .bool false, .bool false, .bool false, .int .i64 0, .bool false, .bool false, .bool false, .bool false, .int .i64 0, .bool false, .bool false, .bool false, .bool false, .int .i64 0, .bool false, .bool false, .bool false, .bool false, .int .i64 0, .bool false, .bool false, .bool false, .bool false, .int .i64 0, .bool false, .bool false, .bool false, .bool false, .int .i64 0, .bool false, .bool false, .bool false, .bool false, .int .i64 0, .bool false, .bool false, .bool false, .bool false, .int .i64 0, .bool false, .bool false, .bool false, .bool false, .int .i64 0, .bool false, .bool false, .bool false, .bool false, .int .i64 0, .bool false, .bool false, .bool false, .bool false, .int .i64 0, .bool false]
theorem zero48 : (∀ w, (zeroValue 84).run Try.prog w = .ok (.agg zeroCells) w) ∧ (Try.prog.info? 84).map (·.size) = some 130 := zero_of_info (by kernel_rfl)
theorem alloc48 {ev : Operand → Value} {o : Oper} (ho : o.op = .alloc 84) (W : World) : (execOp ev o).run Try.prog W = .ok (.value (.pointer (some ⟨W.heap.size, 0, none⟩))) (W.alloc (.cells zeroCells 84 (0, 0))) := by
  unfold execOp
  rw [ho]
  have h1 := zero48.1 W
  go_simp
theorem build48 {ops : Array Oper} {rest : List Oper} {o : Oper} {a : Act} {w : World} {Q : Exit → Act → World → Prop} (hg : o.guard = none) (parts : Array (Nat × Operand)) (ho : o.op = .build 84 parts)
    (hf : Try.prog.built 84 (parts.map fun (i, x) => (i, a.eval x)).toList = some formCells)
    (h : wpList Try.prog ops Q rest (a.put o.dst (.agg formCells)) w) : wpList Try.prog ops Q (o :: rest) a w :=
  wpList_build hg 84 parts ho (by rw [hf]; rfl) (by rw [hf]; exact h)
theorem below_row {B : Nat} {w W : World} (h : Below B w W) {g : Nat} (hg : B ≤ g) (cs : Array Value) : Below B w (W.setRow g cs) :=
  ⟨h.os, h.tape, h.output, by rw [size_setRow]; exact h.size, fun i hi => (setRow_other _ _ _ _ (by omega)).trans (h.block i hi)⟩
theorem store48 {ops : Array Oper} {rest : List Oper} {o : Oper} {a : Act} {w0 w : World} {Q : Exit → Act → World → Prop} (hgd : o.guard = none) (x y : Operand) (ho : o.op = .store 84 x y)
    (g : Nat) (hx : a.eval x = .pointer (some ⟨g, 0, none⟩)) (hy : a.eval y = .agg formCells) (hg : w.heap[g]? = some (.cells zeroCells 84 (0, 0))) (hb : Below w0.heap.size w0 w) (hge : w0.heap.size ≤ g)
    (h : ∀ w1, Aside0 (w1.heap[g]? = some (.cells formCells 84 (0, 0))) → Aside0 (Below w0.heap.size w0 w1) → wpList Try.prog ops Q rest (a.put o.dst undef) w1) : wpList Try.prog ops Q (o :: rest) a w :=
  wpList_store_row hgd 84 x y ho g formCells hx hy 84 zeroCells hg (by kernel_rfl) (by kernel_rfl) (by kernel_rfl) (h _ ⟨setRow_heap _ _ _ _ _ _ hg⟩ ⟨below_row hb hge _⟩)
set_option maxHeartbeats 4000000 in
set_option maxRecDepth 100000 in
theorem code_forms.calls (r : Int) (w : World) (h : code_forms.f = some r) : Calls Try.prog 55 #[] w fun e w' => e = .returned (arV84 r) ∧ Below w.heap.size w w' := by
  have hu47 := Try.underlying83
  clear h
  go_enter Try.func55, Try.ntmps55
  go_wp2_with (first | ((with_reducible refine gate_dst (N := 0) rfl ?_); refine box_event (cs := zeroCells) (t := 84) rfl (N := 0) rfl (alloc48 rfl _) ?_; intro g hg w1 hb hbel; have HB := Aside0.mk hb; have HG := Aside0.mk (Nat.le_of_eq hg.symm); have HW := Aside0.mk hbel; clear hb hg hbel) | ((with_reducible refine gate_dst (N := 34) rfl ?_); refine build48 rfl _ rfl (by kernel_rfl) ?_; refine store48 (w0 := w) rfl _ _ rfl g rfl rfl (by (with_reducible repeat (first | refine blk_drewN ?_ _ | refine blk_drew ?_ | refine blk_alloc ?_ _)); with_reducible exact HB.out) (by repeat (with_reducible first | exact HW.out | apply below_alloc | apply pw_below_drewN | apply below_drew1)) HG.out ?_; intro w2 HB2 HW2))
  refine bodyPost_ret (results_cell_row rfl _ _ g 84 formCells (0, 0) _ rfl HB2.out Try.underlying84 rfl (by kernel_rfl)) rfl ?_
  exact ⟨rfl, HW2.out⟩
end Go.Proofs.Ytcagccodmmcnfaa.Q
