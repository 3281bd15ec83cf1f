/- The reference's Get: a word's instruction, or that it is that of none: its contract by hand, kind by kind. Written by gen_rget.py, a program of this session. -/
import Derived.Test.YtcagccodmmcnfaaCode
import Derived.Test.YtcagccodmmcnfaaQ39
import Derived.Test.YtcagccodmmcnfaaQB
import Derived.Test.YtcagccodmmcnfaaQRR
namespace Go.Proofs.Ytcagccodmmcnfaa.Q
open Go.RowKit Go.Proofs.YtcagccodmmcnfaaW.PrintWords Go.Proofs.YtcagccodmmcnfaaW.PrintLast Go.Proofs.YtcagccodmmcnfaaW.PrintMore Go.Proofs.Ytcagccodmmcnfaa.Code
set_option linter.unusedVariables false
set_option linter.unusedSimpArgs false
theorem call2 {P : Program} {f : FuncId} {args : Array Value} {W w0 : World} {B g0 g1 : Nat} {o0 o1 : Obj} {v : Value} {K : Ending → World → Prop}
    (hc : Calls P f args W fun e w' => e = .returned v ∧ Below W.heap.size W w') (hB : Below B w0 W) (hle : B ≤ W.heap.size) (h0 : W.heap[g0]? = some o0) (h1 : W.heap[g1]? = some o1)
    (k : ∀ w1, Aside0 (Below B w0 w1) → Aside0 (w1.heap[g0]? = some o0) → Aside0 (w1.heap[g1]? = some o1) → K (.returned v) w1) : Calls P f args W K := by
  refine hc.mono ?_
  rintro e w1 ⟨rfl, hb⟩
  exact k w1 ⟨below_then hB hle hb⟩ ⟨blk_below h0 hb⟩ ⟨blk_below h1 hb⟩
set_option maxHeartbeats 1000000 in
set_option maxRecDepth 100000 in
theorem rget_three (k : Nat) (a0 s : Int) (r : Bool) (w : World) (b0 : 0 ≤ a0) (b1 : a0 ≤ 4294967295) (F0 : Aside0 (spliceref02_far.f (a0 / 16777216) = some false)) (F1 : Aside0 (spliceref02_three.f (a0 / 16777216) = some true)) (F2 : Aside0 (spliceref02_Right.f (a0 / 16777216) (a0 / 1048576 % 16) (a0 / 65536 % 16) (a0 % 65536) 0 = some r)) :
    Calls Try.prog 22 #[.int .u32 a0] w fun e w' => e = .returned (if r = true then .tuple #[.agg #[.int .i64 (a0 / 16777216), .int .i64 (a0 / 1048576 % 16), .int .i64 (a0 / 65536 % 16), .int .i64 (a0 % 65536), .int .i64 0], .bool true] else .tuple #[.agg #[.int .i64 0, .int .i64 0, .int .i64 0, .int .i64 0, .int .i64 0], .bool false]) ∧ Below w.heap.size w w' := by
  go_enter Try.func22, Try.ntmps22
  go_wp2_with (first | (go_at_call 33; refine (spliceref02_far.calls _ _ _ F0.out).mono ?_; rintro e w' ⟨rfl, ⟨nd, rfl⟩⟩) | (go_at_call 35; refine (spliceref02_three.calls _ _ _ F1.out).mono ?_; rintro e w' ⟨rfl, ⟨nd, rfl⟩⟩))
  refine call2 (g0 := w.heap.size) (g1 := w.heap.size + 1) (o0 := .cells #[.int .i64 0, .int .i64 0, .int .i64 0, .int .i64 0, .int .i64 0] 55 (0, 0)) (o1 := .cells #[.int .i64 (a0 / 16777216), .int .i64 (a0 / 1048576 % 16), .int .i64 (a0 / 65536 % 16), .int .i64 (a0 % 65536), .int .i64 0] 55 (0, 0)) (spliceref02_Right.calls _ _ _ _ _ _ _ F2.out) (B := w.heap.size) (w0 := w) ?hB ?hle ?h0 ?h1 ?_
  case hB => repeat (with_reducible first | exact Below.refl _ _ | refine below_set ?_ (Nat.le_succ _) | apply below_alloc | apply pw_below_drewN | apply below_drew1)
  case hle => simp; omega
  case h0 =>
    repeat (with_reducible first | refine blk_drewN ?_ _ | refine blk_drew ?_ | refine blk_far ?_ (Nat.ne_of_lt (Nat.lt_succ_self _)) _)
    exact heap_alloc2_old _ _ _
  case h1 =>
    (with_reducible repeat (first | refine blk_drewN ?_ _ | refine blk_drew ?_))
    refine blk_put (cs := #[.int .i64 (a0 / 16777216), .int .i64 (a0 / 1048576 % 16), .int .i64 (a0 / 65536 % 16), .int .i64 0, .int .i64 0]) ?_ 3 _ rfl
    (with_reducible repeat (first | refine blk_drewN ?_ _ | refine blk_drew ?_))
    refine blk_put (cs := #[.int .i64 (a0 / 16777216), .int .i64 (a0 / 1048576 % 16), .int .i64 0, .int .i64 0, .int .i64 0]) ?_ 2 _ rfl
    (with_reducible repeat (first | refine blk_drewN ?_ _ | refine blk_drew ?_))
    refine blk_put (cs := #[.int .i64 (a0 / 16777216), .int .i64 0, .int .i64 0, .int .i64 0, .int .i64 0]) ?_ 1 _ rfl
    (with_reducible repeat (first | refine blk_drewN ?_ _ | refine blk_drew ?_))
    exact heap_alloc2_new _ _ _
  intro w1 HB B0 B1
  have hcz0 : w1.cell? ⟨w.heap.size + 1, 0, none⟩ = some (.int .i64 (a0 / 16777216)) := (blk_cell B1.out 0).trans rfl
  have hcy0 : w1.cell? ⟨w.heap.size, 0, none⟩ = some (.int .i64 0) := (blk_cell B0.out 0).trans rfl
  have hfz0 := blk_frozen B0.out 0
  have hcz1 : w1.cell? ⟨w.heap.size + 1, 1, none⟩ = some (.int .i64 (a0 / 1048576 % 16)) := (blk_cell B1.out 1).trans rfl
  have hcy1 : w1.cell? ⟨w.heap.size, 1, none⟩ = some (.int .i64 0) := (blk_cell B0.out 1).trans rfl
  have hfz1 := blk_frozen B0.out 1
  have hcz2 : w1.cell? ⟨w.heap.size + 1, 2, none⟩ = some (.int .i64 (a0 / 65536 % 16)) := (blk_cell B1.out 2).trans rfl
  have hcy2 : w1.cell? ⟨w.heap.size, 2, none⟩ = some (.int .i64 0) := (blk_cell B0.out 2).trans rfl
  have hfz2 := blk_frozen B0.out 2
  have hcz3 : w1.cell? ⟨w.heap.size + 1, 3, none⟩ = some (.int .i64 (a0 % 65536)) := (blk_cell B1.out 3).trans rfl
  have hcy3 : w1.cell? ⟨w.heap.size, 3, none⟩ = some (.int .i64 0) := (blk_cell B0.out 3).trans rfl
  have hfz3 := blk_frozen B0.out 3
  have hcz4 : w1.cell? ⟨w.heap.size + 1, 4, none⟩ = some (.int .i64 0) := (blk_cell B1.out 4).trans rfl
  have hcy4 : w1.cell? ⟨w.heap.size, 4, none⟩ = some (.int .i64 0) := (blk_cell B0.out 4).trans rfl
  have hfz4 := blk_frozen B0.out 4
  cases r
  ·
    go_wp2
    refine bodyPost_ret (results_ct rfl _ _ w.heap.size 55 #[.int .i64 0, .int .i64 0, .int .i64 0, .int .i64 0, .int .i64 0] (0, 0) _ rfl ?hgfalse Try.underlying55 rfl (by kernel_rfl)) rfl ?_
    case hgfalse =>
      refine blk_put (cs := #[.int .i64 0, .int .i64 0, .int .i64 0, .int .i64 0, .int .i64 0]) ?_ 4 _ rfl
      refine blk_put (cs := #[.int .i64 0, .int .i64 0, .int .i64 0, .int .i64 0, .int .i64 0]) ?_ 3 _ rfl
      refine blk_put (cs := #[.int .i64 0, .int .i64 0, .int .i64 0, .int .i64 0, .int .i64 0]) ?_ 2 _ rfl
      refine blk_put (cs := #[.int .i64 0, .int .i64 0, .int .i64 0, .int .i64 0, .int .i64 0]) ?_ 1 _ rfl
      refine blk_put (cs := #[.int .i64 0, .int .i64 0, .int .i64 0, .int .i64 0, .int .i64 0]) ?_ 0 _ rfl
      exact B0.out
    exact ⟨rfl, by repeat (with_reducible first | exact HB.out | refine below_set ?_ (Nat.le_refl _))⟩
  ·
    go_wp2
    refine bodyPost_ret (results_ct rfl _ _ w.heap.size 55 #[.int .i64 (a0 / 16777216), .int .i64 (a0 / 1048576 % 16), .int .i64 (a0 / 65536 % 16), .int .i64 (a0 % 65536), .int .i64 0] (0, 0) _ rfl ?hgtrue Try.underlying55 rfl (by kernel_rfl)) rfl ?_
    case hgtrue =>
      refine blk_put (cs := #[.int .i64 (a0 / 16777216), .int .i64 (a0 / 1048576 % 16), .int .i64 (a0 / 65536 % 16), .int .i64 (a0 % 65536), .int .i64 0]) ?_ 4 _ rfl
      refine blk_put (cs := #[.int .i64 (a0 / 16777216), .int .i64 (a0 / 1048576 % 16), .int .i64 (a0 / 65536 % 16), .int .i64 0, .int .i64 0]) ?_ 3 _ rfl
      refine blk_put (cs := #[.int .i64 (a0 / 16777216), .int .i64 (a0 / 1048576 % 16), .int .i64 0, .int .i64 0, .int .i64 0]) ?_ 2 _ rfl
      refine blk_put (cs := #[.int .i64 (a0 / 16777216), .int .i64 0, .int .i64 0, .int .i64 0, .int .i64 0]) ?_ 1 _ rfl
      refine blk_put (cs := #[.int .i64 0, .int .i64 0, .int .i64 0, .int .i64 0, .int .i64 0]) ?_ 0 _ rfl
      exact B0.out
    exact ⟨rfl, by repeat (with_reducible first | exact HB.out | refine below_set ?_ (Nat.le_refl _))⟩
set_option maxHeartbeats 1000000 in
set_option maxRecDepth 100000 in
theorem rget_near (k : Nat) (a0 s : Int) (r : Bool) (w : World) (b0 : 0 ≤ a0) (b1 : a0 ≤ 4294967295) (F0 : Aside0 (spliceref02_far.f (a0 / 16777216) = some false)) (F1 : Aside0 (spliceref02_three.f (a0 / 16777216) = some false)) (F2 : Aside0 (spliceref02_near.f (a0 / 16777216) = some true)) (F3 : Aside0 (spliceref01_Sign.f k a0 16 = some s)) (F4 : Aside0 (spliceref02_Right.f (a0 / 16777216) (a0 / 1048576 % 16) (a0 / 65536 % 16) 0 s = some r)) :
    Calls Try.prog 22 #[.int .u32 a0] w fun e w' => e = .returned (if r = true then .tuple #[.agg #[.int .i64 (a0 / 16777216), .int .i64 (a0 / 1048576 % 16), .int .i64 (a0 / 65536 % 16), .int .i64 0, .int .i64 s], .bool true] else .tuple #[.agg #[.int .i64 0, .int .i64 0, .int .i64 0, .int .i64 0, .int .i64 0], .bool false]) ∧ Below w.heap.size w w' := by
  go_enter Try.func22, Try.ntmps22
  go_wp2_with (first | (go_at_call 33; refine (spliceref02_far.calls _ _ _ F0.out).mono ?_; rintro e w' ⟨rfl, ⟨nd, rfl⟩⟩) | (go_at_call 35; refine (spliceref02_three.calls _ _ _ F1.out).mono ?_; rintro e w' ⟨rfl, ⟨nd, rfl⟩⟩) | (go_at_call 36; refine (spliceref02_near.calls _ _ _ F2.out).mono ?_; rintro e w' ⟨rfl, ⟨nd, rfl⟩⟩) | (go_at_call 34; refine (spliceref01_Sign.calls _ _ _ _ _ F3.out).mono ?_; rintro e w' ⟨rfl, ⟨nd, rfl⟩⟩))
  refine call2 (g0 := w.heap.size) (g1 := w.heap.size + 1) (o0 := .cells #[.int .i64 0, .int .i64 0, .int .i64 0, .int .i64 0, .int .i64 0] 55 (0, 0)) (o1 := .cells #[.int .i64 (a0 / 16777216), .int .i64 (a0 / 1048576 % 16), .int .i64 (a0 / 65536 % 16), .int .i64 0, .int .i64 s] 55 (0, 0)) (spliceref02_Right.calls _ _ _ _ _ _ _ F4.out) (B := w.heap.size) (w0 := w) ?hB ?hle ?h0 ?h1 ?_
  case hB => repeat (with_reducible first | exact Below.refl _ _ | refine below_set ?_ (Nat.le_succ _) | apply below_alloc | apply pw_below_drewN | apply below_drew1)
  case hle => simp; omega
  case h0 =>
    repeat (with_reducible first | refine blk_drewN ?_ _ | refine blk_drew ?_ | refine blk_far ?_ (Nat.ne_of_lt (Nat.lt_succ_self _)) _)
    exact heap_alloc2_old _ _ _
  case h1 =>
    (with_reducible repeat (first | refine blk_drewN ?_ _ | refine blk_drew ?_))
    refine blk_put (cs := #[.int .i64 (a0 / 16777216), .int .i64 (a0 / 1048576 % 16), .int .i64 (a0 / 65536 % 16), .int .i64 0, .int .i64 0]) ?_ 4 _ rfl
    (with_reducible repeat (first | refine blk_drewN ?_ _ | refine blk_drew ?_))
    refine blk_put (cs := #[.int .i64 (a0 / 16777216), .int .i64 (a0 / 1048576 % 16), .int .i64 0, .int .i64 0, .int .i64 0]) ?_ 2 _ rfl
    (with_reducible repeat (first | refine blk_drewN ?_ _ | refine blk_drew ?_))
    refine blk_put (cs := #[.int .i64 (a0 / 16777216), .int .i64 0, .int .i64 0, .int .i64 0, .int .i64 0]) ?_ 1 _ rfl
    (with_reducible repeat (first | refine blk_drewN ?_ _ | refine blk_drew ?_))
    exact heap_alloc2_new _ _ _
  intro w1 HB B0 B1
  have hcz0 : w1.cell? ⟨w.heap.size + 1, 0, none⟩ = some (.int .i64 (a0 / 16777216)) := (blk_cell B1.out 0).trans rfl
  have hcy0 : w1.cell? ⟨w.heap.size, 0, none⟩ = some (.int .i64 0) := (blk_cell B0.out 0).trans rfl
  have hfz0 := blk_frozen B0.out 0
  have hcz1 : w1.cell? ⟨w.heap.size + 1, 1, none⟩ = some (.int .i64 (a0 / 1048576 % 16)) := (blk_cell B1.out 1).trans rfl
  have hcy1 : w1.cell? ⟨w.heap.size, 1, none⟩ = some (.int .i64 0) := (blk_cell B0.out 1).trans rfl
  have hfz1 := blk_frozen B0.out 1
  have hcz2 : w1.cell? ⟨w.heap.size + 1, 2, none⟩ = some (.int .i64 (a0 / 65536 % 16)) := (blk_cell B1.out 2).trans rfl
  have hcy2 : w1.cell? ⟨w.heap.size, 2, none⟩ = some (.int .i64 0) := (blk_cell B0.out 2).trans rfl
  have hfz2 := blk_frozen B0.out 2
  have hcz3 : w1.cell? ⟨w.heap.size + 1, 3, none⟩ = some (.int .i64 0) := (blk_cell B1.out 3).trans rfl
  have hcy3 : w1.cell? ⟨w.heap.size, 3, none⟩ = some (.int .i64 0) := (blk_cell B0.out 3).trans rfl
  have hfz3 := blk_frozen B0.out 3
  have hcz4 : w1.cell? ⟨w.heap.size + 1, 4, none⟩ = some (.int .i64 s) := (blk_cell B1.out 4).trans rfl
  have hcy4 : w1.cell? ⟨w.heap.size, 4, none⟩ = some (.int .i64 0) := (blk_cell B0.out 4).trans rfl
  have hfz4 := blk_frozen B0.out 4
  cases r
  ·
    go_wp2
    refine bodyPost_ret (results_ct rfl _ _ w.heap.size 55 #[.int .i64 0, .int .i64 0, .int .i64 0, .int .i64 0, .int .i64 0] (0, 0) _ rfl ?hgfalse Try.underlying55 rfl (by kernel_rfl)) rfl ?_
    case hgfalse =>
      refine blk_put (cs := #[.int .i64 0, .int .i64 0, .int .i64 0, .int .i64 0, .int .i64 0]) ?_ 4 _ rfl
      refine blk_put (cs := #[.int .i64 0, .int .i64 0, .int .i64 0, .int .i64 0, .int .i64 0]) ?_ 3 _ rfl
      refine blk_put (cs := #[.int .i64 0, .int .i64 0, .int .i64 0, .int .i64 0, .int .i64 0]) ?_ 2 _ rfl
      refine blk_put (cs := #[.int .i64 0, .int .i64 0, .int .i64 0, .int .i64 0, .int .i64 0]) ?_ 1 _ rfl
      refine blk_put (cs := #[.int .i64 0, .int .i64 0, .int .i64 0, .int .i64 0, .int .i64 0]) ?_ 0 _ rfl
      exact B0.out
    exact ⟨rfl, by repeat (with_reducible first | exact HB.out | refine below_set ?_ (Nat.le_refl _))⟩
  ·
    go_wp2
    refine bodyPost_ret (results_ct rfl _ _ w.heap.size 55 #[.int .i64 (a0 / 16777216), .int .i64 (a0 / 1048576 % 16), .int .i64 (a0 / 65536 % 16), .int .i64 0, .int .i64 s] (0, 0) _ rfl ?hgtrue Try.underlying55 rfl (by kernel_rfl)) rfl ?_
    case hgtrue =>
      refine blk_put (cs := #[.int .i64 (a0 / 16777216), .int .i64 (a0 / 1048576 % 16), .int .i64 (a0 / 65536 % 16), .int .i64 0, .int .i64 0]) ?_ 4 _ rfl
      refine blk_put (cs := #[.int .i64 (a0 / 16777216), .int .i64 (a0 / 1048576 % 16), .int .i64 (a0 / 65536 % 16), .int .i64 0, .int .i64 0]) ?_ 3 _ rfl
      refine blk_put (cs := #[.int .i64 (a0 / 16777216), .int .i64 (a0 / 1048576 % 16), .int .i64 0, .int .i64 0, .int .i64 0]) ?_ 2 _ rfl
      refine blk_put (cs := #[.int .i64 (a0 / 16777216), .int .i64 0, .int .i64 0, .int .i64 0, .int .i64 0]) ?_ 1 _ rfl
      refine blk_put (cs := #[.int .i64 0, .int .i64 0, .int .i64 0, .int .i64 0, .int .i64 0]) ?_ 0 _ rfl
      exact B0.out
    exact ⟨rfl, by repeat (with_reducible first | exact HB.out | refine below_set ?_ (Nat.le_refl _))⟩
set_option maxHeartbeats 1000000 in
set_option maxRecDepth 100000 in
theorem rget_branch (k : Nat) (a0 s : Int) (r : Bool) (w : World) (b0 : 0 ≤ a0) (b1 : a0 ≤ 4294967295) (t0 : decide (255 < a0 % 65536) = false) (F0 : Aside0 (spliceref02_far.f (a0 / 16777216) = some false)) (F1 : Aside0 (spliceref02_three.f (a0 / 16777216) = some false)) (F2 : Aside0 (spliceref02_near.f (a0 / 16777216) = some false)) (F3 : Aside0 (spliceref02_branch.f (a0 / 16777216) = some true)) (F4 : Aside0 (spliceref01_Sign.f k a0 8 = some s)) (F5 : Aside0 (spliceref02_Right.f (a0 / 16777216) (a0 / 1048576 % 16) (a0 / 65536 % 16) 0 s = some r)) :
    Calls Try.prog 22 #[.int .u32 a0] w fun e w' => e = .returned (if r = true then .tuple #[.agg #[.int .i64 (a0 / 16777216), .int .i64 (a0 / 1048576 % 16), .int .i64 (a0 / 65536 % 16), .int .i64 0, .int .i64 s], .bool true] else .tuple #[.agg #[.int .i64 0, .int .i64 0, .int .i64 0, .int .i64 0, .int .i64 0], .bool false]) ∧ Below w.heap.size w w' := by
  go_enter Try.func22, Try.ntmps22
  go_wp2_with (first | (go_at_call 33; refine (spliceref02_far.calls _ _ _ F0.out).mono ?_; rintro e w' ⟨rfl, ⟨nd, rfl⟩⟩) | (go_at_call 35; refine (spliceref02_three.calls _ _ _ F1.out).mono ?_; rintro e w' ⟨rfl, ⟨nd, rfl⟩⟩) | (go_at_call 36; refine (spliceref02_near.calls _ _ _ F2.out).mono ?_; rintro e w' ⟨rfl, ⟨nd, rfl⟩⟩) | (go_at_call 37; refine (spliceref02_branch.calls _ _ _ F3.out).mono ?_; rintro e w' ⟨rfl, ⟨nd, rfl⟩⟩) | (go_at_call 34; refine (spliceref01_Sign.calls _ _ _ _ _ F4.out).mono ?_; rintro e w' ⟨rfl, ⟨nd, rfl⟩⟩))
  refine call2 (g0 := w.heap.size) (g1 := w.heap.size + 1) (o0 := .cells #[.int .i64 0, .int .i64 0, .int .i64 0, .int .i64 0, .int .i64 0] 55 (0, 0)) (o1 := .cells #[.int .i64 (a0 / 16777216), .int .i64 (a0 / 1048576 % 16), .int .i64 (a0 / 65536 % 16), .int .i64 0, .int .i64 s] 55 (0, 0)) (spliceref02_Right.calls _ _ _ _ _ _ _ F5.out) (B := w.heap.size) (w0 := w) ?hB ?hle ?h0 ?h1 ?_
  case hB => repeat (with_reducible first | exact Below.refl _ _ | refine below_set ?_ (Nat.le_succ _) | apply below_alloc | apply pw_below_drewN | apply below_drew1)
  case hle => simp; omega
  case h0 =>
    repeat (with_reducible first | refine blk_drewN ?_ _ | refine blk_drew ?_ | refine blk_far ?_ (Nat.ne_of_lt (Nat.lt_succ_self _)) _)
    exact heap_alloc2_old _ _ _
  case h1 =>
    (with_reducible repeat (first | refine blk_drewN ?_ _ | refine blk_drew ?_))
    refine blk_put (cs := #[.int .i64 (a0 / 16777216), .int .i64 (a0 / 1048576 % 16), .int .i64 (a0 / 65536 % 16), .int .i64 0, .int .i64 0]) ?_ 4 _ rfl
    (with_reducible repeat (first | refine blk_drewN ?_ _ | refine blk_drew ?_))
    refine blk_put (cs := #[.int .i64 (a0 / 16777216), .int .i64 (a0 / 1048576 % 16), .int .i64 0, .int .i64 0, .int .i64 0]) ?_ 2 _ rfl
    (with_reducible repeat (first | refine blk_drewN ?_ _ | refine blk_drew ?_))
    refine blk_put (cs := #[.int .i64 (a0 / 16777216), .int .i64 0, .int .i64 0, .int .i64 0, .int .i64 0]) ?_ 1 _ rfl
    (with_reducible repeat (first | refine blk_drewN ?_ _ | refine blk_drew ?_))
    exact heap_alloc2_new _ _ _
  intro w1 HB B0 B1
  have hcz0 : w1.cell? ⟨w.heap.size + 1, 0, none⟩ = some (.int .i64 (a0 / 16777216)) := (blk_cell B1.out 0).trans rfl
  have hcy0 : w1.cell? ⟨w.heap.size, 0, none⟩ = some (.int .i64 0) := (blk_cell B0.out 0).trans rfl
  have hfz0 := blk_frozen B0.out 0
  have hcz1 : w1.cell? ⟨w.heap.size + 1, 1, none⟩ = some (.int .i64 (a0 / 1048576 % 16)) := (blk_cell B1.out 1).trans rfl
  have hcy1 : w1.cell? ⟨w.heap.size, 1, none⟩ = some (.int .i64 0) := (blk_cell B0.out 1).trans rfl
  have hfz1 := blk_frozen B0.out 1
  have hcz2 : w1.cell? ⟨w.heap.size + 1, 2, none⟩ = some (.int .i64 (a0 / 65536 % 16)) := (blk_cell B1.out 2).trans rfl
  have hcy2 : w1.cell? ⟨w.heap.size, 2, none⟩ = some (.int .i64 0) := (blk_cell B0.out 2).trans rfl
  have hfz2 := blk_frozen B0.out 2
  have hcz3 : w1.cell? ⟨w.heap.size + 1, 3, none⟩ = some (.int .i64 0) := (blk_cell B1.out 3).trans rfl
  have hcy3 : w1.cell? ⟨w.heap.size, 3, none⟩ = some (.int .i64 0) := (blk_cell B0.out 3).trans rfl
  have hfz3 := blk_frozen B0.out 3
  have hcz4 : w1.cell? ⟨w.heap.size + 1, 4, none⟩ = some (.int .i64 s) := (blk_cell B1.out 4).trans rfl
  have hcy4 : w1.cell? ⟨w.heap.size, 4, none⟩ = some (.int .i64 0) := (blk_cell B0.out 4).trans rfl
  have hfz4 := blk_frozen B0.out 4
  cases r
  ·
    go_wp2
    refine bodyPost_ret (results_ct rfl _ _ w.heap.size 55 #[.int .i64 0, .int .i64 0, .int .i64 0, .int .i64 0, .int .i64 0] (0, 0) _ rfl ?hgfalse Try.underlying55 rfl (by kernel_rfl)) rfl ?_
    case hgfalse =>
      refine blk_put (cs := #[.int .i64 0, .int .i64 0, .int .i64 0, .int .i64 0, .int .i64 0]) ?_ 4 _ rfl
      refine blk_put (cs := #[.int .i64 0, .int .i64 0, .int .i64 0, .int .i64 0, .int .i64 0]) ?_ 3 _ rfl
      refine blk_put (cs := #[.int .i64 0, .int .i64 0, .int .i64 0, .int .i64 0, .int .i64 0]) ?_ 2 _ rfl
      refine blk_put (cs := #[.int .i64 0, .int .i64 0, .int .i64 0, .int .i64 0, .int .i64 0]) ?_ 1 _ rfl
      refine blk_put (cs := #[.int .i64 0, .int .i64 0, .int .i64 0, .int .i64 0, .int .i64 0]) ?_ 0 _ rfl
      exact B0.out
    exact ⟨rfl, by repeat (with_reducible first | exact HB.out | refine below_set ?_ (Nat.le_refl _))⟩
  ·
    go_wp2
    refine bodyPost_ret (results_ct rfl _ _ w.heap.size 55 #[.int .i64 (a0 / 16777216), .int .i64 (a0 / 1048576 % 16), .int .i64 (a0 / 65536 % 16), .int .i64 0, .int .i64 s] (0, 0) _ rfl ?hgtrue Try.underlying55 rfl (by kernel_rfl)) rfl ?_
    case hgtrue =>
      refine blk_put (cs := #[.int .i64 (a0 / 16777216), .int .i64 (a0 / 1048576 % 16), .int .i64 (a0 / 65536 % 16), .int .i64 0, .int .i64 0]) ?_ 4 _ rfl
      refine blk_put (cs := #[.int .i64 (a0 / 16777216), .int .i64 (a0 / 1048576 % 16), .int .i64 (a0 / 65536 % 16), .int .i64 0, .int .i64 0]) ?_ 3 _ rfl
      refine blk_put (cs := #[.int .i64 (a0 / 16777216), .int .i64 (a0 / 1048576 % 16), .int .i64 0, .int .i64 0, .int .i64 0]) ?_ 2 _ rfl
      refine blk_put (cs := #[.int .i64 (a0 / 16777216), .int .i64 0, .int .i64 0, .int .i64 0, .int .i64 0]) ?_ 1 _ rfl
      refine blk_put (cs := #[.int .i64 0, .int .i64 0, .int .i64 0, .int .i64 0, .int .i64 0]) ?_ 0 _ rfl
      exact B0.out
    exact ⟨rfl, by repeat (with_reducible first | exact HB.out | refine below_set ?_ (Nat.le_refl _))⟩
set_option maxHeartbeats 1000000 in
set_option maxRecDepth 100000 in
theorem rget_far (k : Nat) (a0 s : Int) (r : Bool) (w : World) (b0 : 0 ≤ a0) (b1 : a0 ≤ 4294967295) (F0 : Aside0 (spliceref02_far.f (a0 / 16777216) = some true)) (F1 : Aside0 (spliceref02_three.f (a0 / 16777216) = some false)) (F2 : Aside0 (spliceref02_near.f (a0 / 16777216) = some false)) (F3 : Aside0 (spliceref02_branch.f (a0 / 16777216) = some false)) (F4 : Aside0 (spliceref01_Sign.f k a0 24 = some s)) (F5 : Aside0 (spliceref02_Right.f (a0 / 16777216) 0 0 0 s = some r)) :
    Calls Try.prog 22 #[.int .u32 a0] w fun e w' => e = .returned (if r = true then .tuple #[.agg #[.int .i64 (a0 / 16777216), .int .i64 0, .int .i64 0, .int .i64 0, .int .i64 s], .bool true] else .tuple #[.agg #[.int .i64 0, .int .i64 0, .int .i64 0, .int .i64 0, .int .i64 0], .bool false]) ∧ Below w.heap.size w w' := by
  go_enter Try.func22, Try.ntmps22
  go_wp2_with (first | (go_at_call 33; refine (spliceref02_far.calls _ _ _ F0.out).mono ?_; rintro e w' ⟨rfl, ⟨nd, rfl⟩⟩) | (go_at_call 35; refine (spliceref02_three.calls _ _ _ F1.out).mono ?_; rintro e w' ⟨rfl, ⟨nd, rfl⟩⟩) | (go_at_call 36; refine (spliceref02_near.calls _ _ _ F2.out).mono ?_; rintro e w' ⟨rfl, ⟨nd, rfl⟩⟩) | (go_at_call 37; refine (spliceref02_branch.calls _ _ _ F3.out).mono ?_; rintro e w' ⟨rfl, ⟨nd, rfl⟩⟩) | (go_at_call 34; refine (spliceref01_Sign.calls _ _ _ _ _ F4.out).mono ?_; rintro e w' ⟨rfl, ⟨nd, rfl⟩⟩))
  refine call2 (g0 := w.heap.size) (g1 := w.heap.size + 1) (o0 := .cells #[.int .i64 0, .int .i64 0, .int .i64 0, .int .i64 0, .int .i64 0] 55 (0, 0)) (o1 := .cells #[.int .i64 (a0 / 16777216), .int .i64 0, .int .i64 0, .int .i64 0, .int .i64 s] 55 (0, 0)) (spliceref02_Right.calls _ _ _ _ _ _ _ F5.out) (B := w.heap.size) (w0 := w) ?hB ?hle ?h0 ?h1 ?_
  case hB => repeat (with_reducible first | exact Below.refl _ _ | refine below_set ?_ (Nat.le_succ _) | apply below_alloc | apply pw_below_drewN | apply below_drew1)
  case hle => simp; omega
  case h0 =>
    repeat (with_reducible first | refine blk_drewN ?_ _ | refine blk_drew ?_ | refine blk_far ?_ (Nat.ne_of_lt (Nat.lt_succ_self _)) _)
    exact heap_alloc2_old _ _ _
  case h1 =>
    (with_reducible repeat (first | refine blk_drewN ?_ _ | refine blk_drew ?_))
    refine blk_put (cs := #[.int .i64 (a0 / 16777216), .int .i64 0, .int .i64 0, .int .i64 0, .int .i64 0]) ?_ 4 _ rfl
    (with_reducible repeat (first | refine blk_drewN ?_ _ | refine blk_drew ?_))
    exact heap_alloc2_new _ _ _
  intro w1 HB B0 B1
  have hcz0 : w1.cell? ⟨w.heap.size + 1, 0, none⟩ = some (.int .i64 (a0 / 16777216)) := (blk_cell B1.out 0).trans rfl
  have hcy0 : w1.cell? ⟨w.heap.size, 0, none⟩ = some (.int .i64 0) := (blk_cell B0.out 0).trans rfl
  have hfz0 := blk_frozen B0.out 0
  have hcz1 : w1.cell? ⟨w.heap.size + 1, 1, none⟩ = some (.int .i64 0) := (blk_cell B1.out 1).trans rfl
  have hcy1 : w1.cell? ⟨w.heap.size, 1, none⟩ = some (.int .i64 0) := (blk_cell B0.out 1).trans rfl
  have hfz1 := blk_frozen B0.out 1
  have hcz2 : w1.cell? ⟨w.heap.size + 1, 2, none⟩ = some (.int .i64 0) := (blk_cell B1.out 2).trans rfl
  have hcy2 : w1.cell? ⟨w.heap.size, 2, none⟩ = some (.int .i64 0) := (blk_cell B0.out 2).trans rfl
  have hfz2 := blk_frozen B0.out 2
  have hcz3 : w1.cell? ⟨w.heap.size + 1, 3, none⟩ = some (.int .i64 0) := (blk_cell B1.out 3).trans rfl
  have hcy3 : w1.cell? ⟨w.heap.size, 3, none⟩ = some (.int .i64 0) := (blk_cell B0.out 3).trans rfl
  have hfz3 := blk_frozen B0.out 3
  have hcz4 : w1.cell? ⟨w.heap.size + 1, 4, none⟩ = some (.int .i64 s) := (blk_cell B1.out 4).trans rfl
  have hcy4 : w1.cell? ⟨w.heap.size, 4, none⟩ = some (.int .i64 0) := (blk_cell B0.out 4).trans rfl
  have hfz4 := blk_frozen B0.out 4
  cases r
  ·
    go_wp2
    refine bodyPost_ret (results_ct rfl _ _ w.heap.size 55 #[.int .i64 0, .int .i64 0, .int .i64 0, .int .i64 0, .int .i64 0] (0, 0) _ rfl ?hgfalse Try.underlying55 rfl (by kernel_rfl)) rfl ?_
    case hgfalse =>
      refine blk_put (cs := #[.int .i64 0, .int .i64 0, .int .i64 0, .int .i64 0, .int .i64 0]) ?_ 4 _ rfl
      refine blk_put (cs := #[.int .i64 0, .int .i64 0, .int .i64 0, .int .i64 0, .int .i64 0]) ?_ 3 _ rfl
      refine blk_put (cs := #[.int .i64 0, .int .i64 0, .int .i64 0, .int .i64 0, .int .i64 0]) ?_ 2 _ rfl
      refine blk_put (cs := #[.int .i64 0, .int .i64 0, .int .i64 0, .int .i64 0, .int .i64 0]) ?_ 1 _ rfl
      refine blk_put (cs := #[.int .i64 0, .int .i64 0, .int .i64 0, .int .i64 0, .int .i64 0]) ?_ 0 _ rfl
      exact B0.out
    exact ⟨rfl, by repeat (with_reducible first | exact HB.out | refine below_set ?_ (Nat.le_refl _))⟩
  ·
    go_wp2
    refine bodyPost_ret (results_ct rfl _ _ w.heap.size 55 #[.int .i64 (a0 / 16777216), .int .i64 0, .int .i64 0, .int .i64 0, .int .i64 s] (0, 0) _ rfl ?hgtrue Try.underlying55 rfl (by kernel_rfl)) rfl ?_
    case hgtrue =>
      refine blk_put (cs := #[.int .i64 (a0 / 16777216), .int .i64 0, .int .i64 0, .int .i64 0, .int .i64 0]) ?_ 4 _ rfl
      refine blk_put (cs := #[.int .i64 (a0 / 16777216), .int .i64 0, .int .i64 0, .int .i64 0, .int .i64 0]) ?_ 3 _ rfl
      refine blk_put (cs := #[.int .i64 (a0 / 16777216), .int .i64 0, .int .i64 0, .int .i64 0, .int .i64 0]) ?_ 2 _ rfl
      refine blk_put (cs := #[.int .i64 (a0 / 16777216), .int .i64 0, .int .i64 0, .int .i64 0, .int .i64 0]) ?_ 1 _ rfl
      refine blk_put (cs := #[.int .i64 0, .int .i64 0, .int .i64 0, .int .i64 0, .int .i64 0]) ?_ 0 _ rfl
      exact B0.out
    exact ⟨rfl, by repeat (with_reducible first | exact HB.out | refine below_set ?_ (Nat.le_refl _))⟩
set_option maxHeartbeats 1000000 in
set_option maxRecDepth 100000 in
theorem rget_other (k : Nat) (a0 s : Int) (r : Bool) (w : World) (b0 : 0 ≤ a0) (b1 : a0 ≤ 4294967295) (F0 : Aside0 (spliceref02_far.f (a0 / 16777216) = some false)) (F1 : Aside0 (spliceref02_three.f (a0 / 16777216) = some false)) (F2 : Aside0 (spliceref02_near.f (a0 / 16777216) = some false)) (F3 : Aside0 (spliceref02_branch.f (a0 / 16777216) = some false)) (F4 : Aside0 (spliceref02_Right.f (a0 / 16777216) (a0 / 1048576 % 16) (a0 / 65536 % 16) 0 (a0 % 65536) = some r)) :
    Calls Try.prog 22 #[.int .u32 a0] w fun e w' => e = .returned (if r = true then .tuple #[.agg #[.int .i64 (a0 / 16777216), .int .i64 (a0 / 1048576 % 16), .int .i64 (a0 / 65536 % 16), .int .i64 0, .int .i64 (a0 % 65536)], .bool true] else .tuple #[.agg #[.int .i64 0, .int .i64 0, .int .i64 0, .int .i64 0, .int .i64 0], .bool false]) ∧ Below w.heap.size w w' := by
  go_enter Try.func22, Try.ntmps22
  go_wp2_with (first | (go_at_call 33; refine (spliceref02_far.calls _ _ _ F0.out).mono ?_; rintro e w' ⟨rfl, ⟨nd, rfl⟩⟩) | (go_at_call 35; refine (spliceref02_three.calls _ _ _ F1.out).mono ?_; rintro e w' ⟨rfl, ⟨nd, rfl⟩⟩) | (go_at_call 36; refine (spliceref02_near.calls _ _ _ F2.out).mono ?_; rintro e w' ⟨rfl, ⟨nd, rfl⟩⟩) | (go_at_call 37; refine (spliceref02_branch.calls _ _ _ F3.out).mono ?_; rintro e w' ⟨rfl, ⟨nd, rfl⟩⟩))
  refine call2 (g0 := w.heap.size) (g1 := w.heap.size + 1) (o0 := .cells #[.int .i64 0, .int .i64 0, .int .i64 0, .int .i64 0, .int .i64 0] 55 (0, 0)) (o1 := .cells #[.int .i64 (a0 / 16777216), .int .i64 (a0 / 1048576 % 16), .int .i64 (a0 / 65536 % 16), .int .i64 0, .int .i64 (a0 % 65536)] 55 (0, 0)) (spliceref02_Right.calls _ _ _ _ _ _ _ F4.out) (B := w.heap.size) (w0 := w) ?hB ?hle ?h0 ?h1 ?_
  case hB => repeat (with_reducible first | exact Below.refl _ _ | refine below_set ?_ (Nat.le_succ _) | apply below_alloc | apply pw_below_drewN | apply below_drew1)
  case hle => simp; omega
  case h0 =>
    repeat (with_reducible first | refine blk_drewN ?_ _ | refine blk_drew ?_ | refine blk_far ?_ (Nat.ne_of_lt (Nat.lt_succ_self _)) _)
    exact heap_alloc2_old _ _ _
  case h1 =>
    (with_reducible repeat (first | refine blk_drewN ?_ _ | refine blk_drew ?_))
    refine blk_put (cs := #[.int .i64 (a0 / 16777216), .int .i64 (a0 / 1048576 % 16), .int .i64 (a0 / 65536 % 16), .int .i64 0, .int .i64 0]) ?_ 4 _ rfl
    (with_reducible repeat (first | refine blk_drewN ?_ _ | refine blk_drew ?_))
    refine blk_put (cs := #[.int .i64 (a0 / 16777216), .int .i64 (a0 / 1048576 % 16), .int .i64 0, .int .i64 0, .int .i64 0]) ?_ 2 _ rfl
    (with_reducible repeat (first | refine blk_drewN ?_ _ | refine blk_drew ?_))
    refine blk_put (cs := #[.int .i64 (a0 / 16777216), .int .i64 0, .int .i64 0, .int .i64 0, .int .i64 0]) ?_ 1 _ rfl
    (with_reducible repeat (first | refine blk_drewN ?_ _ | refine blk_drew ?_))
    exact heap_alloc2_new _ _ _
  intro w1 HB B0 B1
  have hcz0 : w1.cell? ⟨w.heap.size + 1, 0, none⟩ = some (.int .i64 (a0 / 16777216)) := (blk_cell B1.out 0).trans rfl
  have hcy0 : w1.cell? ⟨w.heap.size, 0, none⟩ = some (.int .i64 0) := (blk_cell B0.out 0).trans rfl
  have hfz0 := blk_frozen B0.out 0
  have hcz1 : w1.cell? ⟨w.heap.size + 1, 1, none⟩ = some (.int .i64 (a0 / 1048576 % 16)) := (blk_cell B1.out 1).trans rfl
  have hcy1 : w1.cell? ⟨w.heap.size, 1, none⟩ = some (.int .i64 0) := (blk_cell B0.out 1).trans rfl
  have hfz1 := blk_frozen B0.out 1
  have hcz2 : w1.cell? ⟨w.heap.size + 1, 2, none⟩ = some (.int .i64 (a0 / 65536 % 16)) := (blk_cell B1.out 2).trans rfl
  have hcy2 : w1.cell? ⟨w.heap.size, 2, none⟩ = some (.int .i64 0) := (blk_cell B0.out 2).trans rfl
  have hfz2 := blk_frozen B0.out 2
  have hcz3 : w1.cell? ⟨w.heap.size + 1, 3, none⟩ = some (.int .i64 0) := (blk_cell B1.out 3).trans rfl
  have hcy3 : w1.cell? ⟨w.heap.size, 3, none⟩ = some (.int .i64 0) := (blk_cell B0.out 3).trans rfl
  have hfz3 := blk_frozen B0.out 3
  have hcz4 : w1.cell? ⟨w.heap.size + 1, 4, none⟩ = some (.int .i64 (a0 % 65536)) := (blk_cell B1.out 4).trans rfl
  have hcy4 : w1.cell? ⟨w.heap.size, 4, none⟩ = some (.int .i64 0) := (blk_cell B0.out 4).trans rfl
  have hfz4 := blk_frozen B0.out 4
  cases r
  ·
    go_wp2
    refine bodyPost_ret (results_ct rfl _ _ w.heap.size 55 #[.int .i64 0, .int .i64 0, .int .i64 0, .int .i64 0, .int .i64 0] (0, 0) _ rfl ?hgfalse Try.underlying55 rfl (by kernel_rfl)) rfl ?_
    case hgfalse =>
      refine blk_put (cs := #[.int .i64 0, .int .i64 0, .int .i64 0, .int .i64 0, .int .i64 0]) ?_ 4 _ rfl
      refine blk_put (cs := #[.int .i64 0, .int .i64 0, .int .i64 0, .int .i64 0, .int .i64 0]) ?_ 3 _ rfl
      refine blk_put (cs := #[.int .i64 0, .int .i64 0, .int .i64 0, .int .i64 0, .int .i64 0]) ?_ 2 _ rfl
      refine blk_put (cs := #[.int .i64 0, .int .i64 0, .int .i64 0, .int .i64 0, .int .i64 0]) ?_ 1 _ rfl
      refine blk_put (cs := #[.int .i64 0, .int .i64 0, .int .i64 0, .int .i64 0, .int .i64 0]) ?_ 0 _ rfl
      exact B0.out
    exact ⟨rfl, by repeat (with_reducible first | exact HB.out | refine below_set ?_ (Nat.le_refl _))⟩
  ·
    go_wp2
    refine bodyPost_ret (results_ct rfl _ _ w.heap.size 55 #[.int .i64 (a0 / 16777216), .int .i64 (a0 / 1048576 % 16), .int .i64 (a0 / 65536 % 16), .int .i64 0, .int .i64 (a0 % 65536)] (0, 0) _ rfl ?hgtrue Try.underlying55 rfl (by kernel_rfl)) rfl ?_
    case hgtrue =>
      refine blk_put (cs := #[.int .i64 (a0 / 16777216), .int .i64 (a0 / 1048576 % 16), .int .i64 (a0 / 65536 % 16), .int .i64 0, .int .i64 0]) ?_ 4 _ rfl
      refine blk_put (cs := #[.int .i64 (a0 / 16777216), .int .i64 (a0 / 1048576 % 16), .int .i64 (a0 / 65536 % 16), .int .i64 0, .int .i64 0]) ?_ 3 _ rfl
      refine blk_put (cs := #[.int .i64 (a0 / 16777216), .int .i64 (a0 / 1048576 % 16), .int .i64 0, .int .i64 0, .int .i64 0]) ?_ 2 _ rfl
      refine blk_put (cs := #[.int .i64 (a0 / 16777216), .int .i64 0, .int .i64 0, .int .i64 0, .int .i64 0]) ?_ 1 _ rfl
      refine blk_put (cs := #[.int .i64 0, .int .i64 0, .int .i64 0, .int .i64 0, .int .i64 0]) ?_ 0 _ rfl
      exact B0.out
    exact ⟨rfl, by repeat (with_reducible first | exact HB.out | refine below_set ?_ (Nat.le_refl _))⟩
set_option maxHeartbeats 1000000 in
set_option maxRecDepth 100000 in
theorem rget_long (a0 : Int) (w : World) (b0 : 0 ≤ a0) (b1 : a0 ≤ 4294967295) (t0 : decide (255 < a0 % 65536) = true) (F0 : Aside0 (spliceref02_far.f (a0 / 16777216) = some false)) (F1 : Aside0 (spliceref02_three.f (a0 / 16777216) = some false)) (F2 : Aside0 (spliceref02_near.f (a0 / 16777216) = some false)) (F3 : Aside0 (spliceref02_branch.f (a0 / 16777216) = some true)) :
    Calls Try.prog 22 #[.int .u32 a0] w fun e w' => e = .returned (.tuple #[.agg #[.int .i64 0, .int .i64 0, .int .i64 0, .int .i64 0, .int .i64 0], .bool false]) ∧ Below w.heap.size w w' := by
  go_enter Try.func22, Try.ntmps22
  go_wp2_with (first | (go_at_call 33; refine (spliceref02_far.calls _ _ _ F0.out).mono ?_; rintro e w' ⟨rfl, ⟨nd, rfl⟩⟩) | (go_at_call 35; refine (spliceref02_three.calls _ _ _ F1.out).mono ?_; rintro e w' ⟨rfl, ⟨nd, rfl⟩⟩) | (go_at_call 36; refine (spliceref02_near.calls _ _ _ F2.out).mono ?_; rintro e w' ⟨rfl, ⟨nd, rfl⟩⟩) | (go_at_call 37; refine (spliceref02_branch.calls _ _ _ F3.out).mono ?_; rintro e w' ⟨rfl, ⟨nd, rfl⟩⟩))
  refine bodyPost_ret (results_ct rfl _ _ w.heap.size 55 #[.int .i64 0, .int .i64 0, .int .i64 0, .int .i64 0, .int .i64 0] (0, 0) _ rfl ?hg Try.underlying55 rfl (by kernel_rfl)) rfl ?_
  case hg =>
    repeat (with_reducible first | refine blk_drewN ?_ _ | refine blk_drew ?_ | refine blk_far ?_ (Nat.ne_of_lt (Nat.lt_succ_self _)) _ | (refine blk_put (cs := #[.int .i64 0, .int .i64 0, .int .i64 0, .int .i64 0, .int .i64 0]) ?_ 0 _ rfl) | (refine blk_put (cs := #[.int .i64 0, .int .i64 0, .int .i64 0, .int .i64 0, .int .i64 0]) ?_ 1 _ rfl) | (refine blk_put (cs := #[.int .i64 0, .int .i64 0, .int .i64 0, .int .i64 0, .int .i64 0]) ?_ 2 _ rfl) | (refine blk_put (cs := #[.int .i64 0, .int .i64 0, .int .i64 0, .int .i64 0, .int .i64 0]) ?_ 3 _ rfl) | (refine blk_put (cs := #[.int .i64 0, .int .i64 0, .int .i64 0, .int .i64 0, .int .i64 0]) ?_ 4 _ rfl))
    exact heap_alloc2_old _ _ _
  exact ⟨rfl, by repeat (with_reducible first | exact Below.refl _ _ | refine below_set ?_ (Nat.le_succ _) | refine below_set ?_ (Nat.le_refl _) | apply below_alloc | apply pw_below_drewN | apply below_drew1)⟩
theorem rg_end {P : World → Prop} {R : Prop} [Decidable R] {x y z u v r1 r2 r3 r4 r5 : Int} {b : Bool} {r6 : Bool} (hb : b = decide R) (h : (if R then (some (x, y, z, u, v, true)) else (some (0, 0, 0, 0, 0, false))) = some (r1, r2, r3, r4, r5, r6)) {e : Ending} {w' : World}
    (he : e = .returned (if b = true then .tuple #[.agg #[.int .i64 x, .int .i64 y, .int .i64 z, .int .i64 u, .int .i64 v], .bool true] else .tuple #[.agg #[.int .i64 0, .int .i64 0, .int .i64 0, .int .i64 0, .int .i64 0], .bool false]) ∧ P w') :
    e = .returned (.tuple #[.agg #[.int .i64 r1, .int .i64 r2, .int .i64 r3, .int .i64 r4, .int .i64 r5], .bool r6]) ∧ P w' := by
  subst hb
  refine ⟨he.1.trans ?_, he.2⟩
  by_cases p : R
  · rw [if_pos p] at h
    simp only [Option.some.injEq, Prod.mk.injEq] at h
    obtain ⟨rfl, rfl, rfl, rfl, rfl, rfl⟩ := h
    rw [if_pos (decide_eq_true p)]
  · rw [if_neg p] at h
    simp only [Option.some.injEq, Prod.mk.injEq] at h
    obtain ⟨rfl, rfl, rfl, rfl, rfl, rfl⟩ := h
    rw [if_neg (by simpa using p)]
theorem spliceref02_Get.calls (a0 : Int) (r1 : Int) (r2 : Int) (r3 : Int) (r4 : Int) (r5 : Int) (r6 : Bool) (w : World) (h : spliceref02_Get.f a0 = some (r1, r2, r3, r4, r5, r6)) :
    Calls Try.prog 22 #[.int .u32 a0] w fun e w' => e = .returned (.tuple #[.agg #[.int .i64 r1, .int .i64 r2, .int .i64 r3, .int .i64 r4, .int .i64 r5], .bool r6]) ∧ Below w.heap.size w w' := by
  unfold spliceref02_Get.f at h
  by_cases hu : ¬ (0 ≤ a0 ∧ a0 ≤ 4294967295)
  · rw [if_neg hu] at h; cases h
  have hu := Decidable.not_not.1 hu
  rw [if_pos hu] at h
  obtain ⟨op, a, b, lo, h0, ha, hb, hl, e, e0, e1, e2, e3⟩ := parts a0 hu
  have hs8 : lo ≤ 255 → a0 % 256 = lo := by omega
  have hs24 : a0 % 16777216 = a * 1048576 + b * 65536 + lo := by omega
  have f1 : spliceref02_far.f (a0 / 16777216) = some (decide (op = 19 ∨ op = 20)) := by rw [far_eq, e0]
  have f2 : spliceref02_three.f (a0 / 16777216) = some (decide (1 ≤ op ∧ op ≤ 7)) := by rw [three_eq, e0]
  have f3 : spliceref02_near.f (a0 / 16777216) = some (decide (op = 8 ∨ 11 ≤ op ∧ op ≤ 14)) := by rw [near_eq, e0]
  have f4 : spliceref02_branch.f (a0 / 16777216) = some (decide (15 ≤ op ∧ op ≤ 18)) := by rw [branch_eq, e0]
  by_cases g1 : 1 ≤ op ∧ op ≤ 7
  · have hh := (rk_three h0 ha hb hl e g1).trans h
    rw [← e0, ← e1, ← e2, ← e3] at hh
    rw [decide_eq_false (by omega)] at f1
    rw [decide_eq_true g1] at f2
    exact (rget_three 41 a0 0 _ w hu.1 hu.2 ⟨f1⟩ ⟨f2⟩ ⟨ref_right_eq _ _ _ _ _⟩).mono fun e w' he => rg_end rfl hh he
  by_cases g2 : op = 8 ∨ 11 ≤ op ∧ op ≤ 14
  · have hh := (rk_near h0 ha hb hl e g2).trans h
    rw [← e0, ← e1, ← e2] at hh
    rw [decide_eq_false (by omega)] at f1
    rw [decide_eq_false g1] at f2
    rw [decide_eq_true g2] at f3
    exact (rget_near 41 a0 (sg16 lo) _ w hu.1 hu.2 ⟨f1⟩ ⟨f2⟩ ⟨f3⟩ ⟨by rw [rsign16 (by omega) hu, e3]⟩ ⟨ref_right_eq _ _ _ _ _⟩).mono fun e w' he => rg_end rfl hh he
  by_cases g3 : 15 ≤ op ∧ op ≤ 18
  · rw [decide_eq_false (by omega)] at f1
    rw [decide_eq_false g1] at f2
    rw [decide_eq_false g2] at f3
    rw [decide_eq_true g3] at f4
    by_cases l : lo ≤ 255
    · have hh := (rk_branch h0 ha hb hl e g3 l).trans h
      rw [← e0, ← e1, ← e2] at hh
      exact (rget_branch 41 a0 (sg8 lo) _ w hu.1 hu.2 (decide_eq_false (by omega)) ⟨f1⟩ ⟨f2⟩ ⟨f3⟩ ⟨f4⟩ ⟨by rw [rsign8 (by omega) hu, hs8 l]⟩ ⟨ref_right_eq _ _ _ _ _⟩).mono fun e w' he => rg_end rfl hh he
    · have hh := (congrArg some (rk_long h0 ha hb hl e g3 (by omega))).trans h
      simp only [Option.some.injEq, Prod.mk.injEq] at hh
      obtain ⟨rfl, rfl, rfl, rfl, rfl, rfl⟩ := hh
      exact rget_long a0 w hu.1 hu.2 (decide_eq_true (by omega)) ⟨f1⟩ ⟨f2⟩ ⟨f3⟩ ⟨f4⟩
  rw [decide_eq_false g1] at f2
  rw [decide_eq_false g2] at f3
  rw [decide_eq_false g3] at f4
  by_cases g4 : op = 19 ∨ op = 20
  · have hh := (rk_far h0 ha hb hl e g4).trans h
    rw [← e0] at hh
    rw [decide_eq_true g4] at f1
    exact (rget_far 41 a0 _ _ w hu.1 hu.2 ⟨f1⟩ ⟨f2⟩ ⟨f3⟩ ⟨f4⟩ ⟨by rw [rsign24 (by omega) hu, hs24]⟩ ⟨ref_right_eq _ _ _ _ _⟩).mono fun e w' he => rg_end rfl hh he
  · have hh := (rk_other h0 ha hb hl e g1 g2 g3 g4).trans h
    rw [← e0, ← e1, ← e2, ← e3] at hh
    rw [decide_eq_false g4] at f1
    exact (rget_other 41 a0 0 _ w hu.1 hu.2 ⟨f1⟩ ⟨f2⟩ ⟨f3⟩ ⟨f4⟩ ⟨ref_right_eq _ _ _ _ _⟩).mono fun e w' he => rg_end rfl hh he
end Go.Proofs.Ytcagccodmmcnfaa.Q
