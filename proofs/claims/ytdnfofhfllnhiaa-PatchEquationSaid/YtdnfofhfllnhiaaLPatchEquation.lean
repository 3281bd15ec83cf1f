/- Several texts in one. Own work; written by merge.py. -/
import Derived.Test.YtdnfofhfllnhiaaMxA
import Derived.Test.YtdnfofhfllnhiaaQP
import Derived.Test.YtdnfofhfllnhiaaQ19
import Derived.Test.YtdnfofhfllnhiaaQ23
import Derived.Test.YtdnfofhfllnhiaaHrg
import Derived.Test.YtdnfofhfllnhiaaQLE
import Derived.Test.YtdnfofhfllnhiaaQE0
import Derived.Test.YtdnfofhfllnhiaaQ36
import Derived.Test.YtdnfofhfllnhiaaRows
import Derived.Test.YtdnfofhfllnhiaaPurePatchEquation
import Derived.Test.YtdnfofhfllnhiaaQR
import Derived.WalkKit
import Derived.ProofKit
import Derived.OpenShut
import Derived.ShutString
import Derived.ChangeOld
import Derived.Below
import Derived.SizedLaws
section
/- The law PatchEquation: its contract. Own work; a template, printed by gen_pe.py. -/
namespace Go.Proofs.Ytdnfofhfllnhiaa.Pe
open Go.RowKit Go.Proofs.YtdnfofhfllnhiaaW.PrintWords Go.Proofs.YtdnfofhfllnhiaaW.PrintLast Go.Proofs.YtdnfofhfllnhiaaW.PrintMore Go.Proofs.Ytdnfofhfllnhiaa.Hp Go.Proofs.Ytdnfofhfllnhiaa.Q
set_option linter.unusedVariables false
set_option linter.unusedSimpArgs false
attribute [local go_sem] add_any max2_int min2_int max_two min_two
attribute [local go_sem high] eqA49
theorem putAll {cs X : Array Value} (h : cs.size = X.size) : putSeg cs 0 (Value.agg X).cells.toList = X := by
  unfold putSeg
  have e : (Value.agg X).cells.toList = X.toList := rfl
  rw [e, List.drop_of_length_le (by simp [h])]
  simp
/-- A struct that stands somewhere, loaded. -/
theorem hp_cellsXG {P : Program} {ops : Array Oper} {rest : List Oper} {o : Oper} {a : Act} {Q : Exit → Act → World → Prop} {W : World} (hgd : o.guard = none) {ty : TypeId} {x : Operand} (ho : o.op = .load ty x) {ad : Addr} (hx : a.eval x = .pointer (some ad)) {vs : Array Value} (hc : ∀ j v, vs.toList[j]? = some v → W.cell? (ad.add j) = some v)
    (hu : (match P.underlying ty with | some (.struct _) | some (.array _ _) => true | _ => false) = true) (hi : (P.info? ty).map (·.size) = some vs.toList.length)
    (h : wpList P ops Q rest (a.put o.dst (.agg vs)) W) : WpS P ops Q (o :: rest) a W := ⟨by
  refine Kd.event_run hgd ?_ h
  have hl := run_loadCells_list (P := P) W ad vs.toList hc
  unfold execOp
  simp only [ho, hx, Instr.loadAt, Instr.sureAddr, Sem.run_bind, Sem.run_pure, Result.andThen_ok]
  cases hq : P.info? ty with
  | none => simp [hq] at hi
  | some i =>
    have hs : i.size = vs.toList.length := by simpa [hq] using hi
    cases hd : P.underlying ty with
    | none => simp [hd] at hu
    | some d =>
      have hagg : (isAgg ty).run P W = .ok true W := by
        unfold isAgg
        rw [Sem.run_bind, run_underlying hd W]
        rw [hd] at hu
        cases d <;> simp_all
      simp only [Array.toArray_toList] at hl
      simp only [Array.length_toList] at hl hs
      simp [loadVar, Sem.run_bind, hagg, sizeOf, typeInfo, hq, hs, hl]⟩
theorem cells4 {w : World} {a : Addr} {v0 v1 v2 v3 : Value} (h0 : w.cell? a = some v0) (h1 : w.cell? ⟨a.block, a.off + 1, none⟩ = some v1) (h2 : w.cell? ⟨a.block, a.off + 2, none⟩ = some v2) (h3 : w.cell? ⟨a.block, a.off + 3, none⟩ = some v3) : ∀ j v, (#[v0, v1, v2, v3] : Array Value).toList[j]? = some v → w.cell? (a.add j) = some v
  | 0, v, h => by cases h; exact h0
  | 1, v, h => by cases h; exact h1
  | 2, v, h => by cases h; exact h2
  | 3, v, h => by cases h; exact h3
  | j + 4, v, h => by simp at h
section
variable {k : Nat} {os : List Int} {x7 f : Int} {ws : List Int} {at_ : Int} {rs : List S46} {i : Int} {ds : List S44} {dd : List S55} {en : Int} {X0 X1 : List Int} {p2 p3 p4 : Int} {r : Bool}
/-- What stands behind a relocation's kind. -/
structure Kinds (X0 X1 : List Int) (f i n : Int) (q : S46) : Prop where
  k1 : q.f1 = 1 → 0 ≤ f ∧ f < (X0.length : Int) ∧ 0 ≤ q.f2 ∧ q.f2 < (X0.length : Int) ∧ wrap64 (wrap64 (wrap64 (rd X0 f + i) + 1) + n) = rd X0 q.f2
  k2 : q.f1 = 2 → 0 ≤ q.f2 ∧ q.f2 < (X1.length : Int) ∧ n = wrap64 (Int.tdiv (wrap64 (wrap64 (65536 + rd X1 q.f2) + q.f3)) 65536)
  k3 : q.f1 = 3 → 0 ≤ q.f2 ∧ q.f2 < (X1.length : Int) ∧ n = Int.tmod (wrap64 (wrap64 (65536 + rd X1 q.f2) + q.f3)) 65536
theorem j5_step {n : Int} {b : Bool} {q0 q1 q2 q3 : Int} (h : splicelaw13_PatchEquation.j5 k os x7 f ws at_ rs i n b ds dd en X0 X1 p2 p3 p4 q0 q1 q2 q3 = some r) :
    ∃ k', k' < k ∧ b = false ∧ (q1 = 2 → 0 ≤ q2 ∧ q2 < (X1.length : Int) ∧ n = wrap64 (Int.tdiv (wrap64 (wrap64 (65536 + rd X1 q2) + q3)) 65536)) ∧ (q1 = 3 → 0 ≤ q2 ∧ q2 < (X1.length : Int) ∧ n = Int.tmod (wrap64 (wrap64 (65536 + rd X1 q2) + q3)) 65536) ∧ splicelaw13_PatchEquation.l1 k' os x7 f ws at_ rs (wrap64 (i + 1)) ds dd en X0 X1 p2 p3 p4 = some r := by
  cases k with
  | zero => simp [splicelaw13_PatchEquation.j5] at h
  | succ k =>
    simp only [splicelaw13_PatchEquation.j5] at h
    refine ⟨k, Nat.lt_succ_self k, ?_⟩
    cases b with
    | true => simp at h
    | false =>
      rw [if_neg (by decide)] at h
      by_cases h2 : q1 = 2
      · rw [if_pos h2] at h
        by_cases g0 : 0 ≤ q2
        case neg => rw [if_neg g0] at h; cases h
        rw [if_pos g0] at h
        by_cases g1 : q2 < (X1.length : Int)
        case neg => rw [if_neg g1] at h; cases h
        rw [if_pos g1] at h
        by_cases g2 : n = wrap64 (Int.tdiv (wrap64 (wrap64 (65536 + rd X1 q2) + q3)) 65536)
        case neg => rw [if_neg g2] at h; cases h
        rw [if_pos g2, if_neg (by omega)] at h
        exact ⟨rfl, fun _ => ⟨g0, g1, g2⟩, fun h3 => by omega, h⟩
      · rw [if_neg h2] at h
        by_cases h3 : q1 = 3
        · rw [if_pos h3] at h
          by_cases g0 : 0 ≤ q2
          case neg => rw [if_neg g0] at h; cases h
          rw [if_pos g0] at h
          by_cases g1 : q2 < (X1.length : Int)
          case neg => rw [if_neg g1] at h; cases h
          rw [if_pos g1] at h
          by_cases g2 : n = Int.tmod (wrap64 (wrap64 (65536 + rd X1 q2) + q3)) 65536
          case neg => rw [if_neg g2] at h; cases h
          rw [if_pos g2] at h
          exact ⟨rfl, fun h2' => absurd h2' h2, fun _ => ⟨g0, g1, g2⟩, h⟩
        · rw [if_neg h3] at h
          exact ⟨rfl, fun h2' => absurd h2' h2, fun h3' => absurd h3' h3, h⟩
theorem j4_step {n : Int} {b : Bool} {q : S46} (h : splicelaw13_PatchEquation.j4 k os x7 f ws at_ rs i n b ds dd en X0 X1 p2 p3 p4 q.f0 q.f1 q.f2 q.f3 = some r) :
    ∃ k', k' < k ∧ b = false ∧ Kinds X0 X1 f i n q ∧ splicelaw13_PatchEquation.l1 k' os x7 f ws at_ rs (wrap64 (i + 1)) ds dd en X0 X1 p2 p3 p4 = some r := by
  cases k with
  | zero => simp [splicelaw13_PatchEquation.j4] at h
  | succ k =>
    simp only [splicelaw13_PatchEquation.j4] at h
    cases b with
    | true => simp at h
    | false =>
      rw [if_neg (by decide)] at h
      by_cases h1 : q.f1 = 1
      · rw [if_pos h1] at h
        by_cases g0 : 0 ≤ f
        case neg => rw [if_neg g0] at h; cases h
        rw [if_pos g0] at h
        by_cases g1 : f < (X0.length : Int)
        case neg => rw [if_neg g1] at h; cases h
        rw [if_pos g1] at h
        by_cases g2 : 0 ≤ q.f2
        case neg => rw [if_neg g2] at h; cases h
        rw [if_pos g2] at h
        by_cases g3 : q.f2 < (X0.length : Int)
        case neg => rw [if_neg g3] at h; cases h
        rw [if_pos g3] at h
        obtain ⟨k', hk, hb, e2, e3, hn⟩ := j5_step h
        exact ⟨k', by omega, rfl, ⟨fun _ => ⟨g0, g1, g2, g3, by simpa using hb⟩, e2, e3⟩, hn⟩
      · rw [if_neg h1] at h
        obtain ⟨k', hk, _, e2, e3, hn⟩ := j5_step h
        exact ⟨k', by omega, rfl, ⟨fun h1' => absurd h1' h1, e2, e3⟩, hn⟩
theorem l1_step (h : splicelaw13_PatchEquation.l1 k os x7 f ws at_ rs i ds dd en X0 X1 p2 p3 p4 = some r) (hi : i < (ws.length : Int)) :
    ∃ k', k' < k ∧ 0 ≤ i ∧ 0 ≤ f ∧ f < (ds.length : Int) ∧ i < ((rd_T44 ds f).f3.length : Int) ∧
      (((at_ ≥ (rs.length : Int) ∨ at_ < (rs.length : Int) ∧ 0 ≤ at_ ∧ ¬ (rd_T46 rs at_).f0 = i) ∧ rd ws i = rd (rd_T44 ds f).f3 i ∧ splicelaw13_PatchEquation.l1 k' os x7 f ws at_ rs (wrap64 (i + 1)) ds dd en X0 X1 p2 p3 p4 = some r) ∨
       (at_ < (rs.length : Int) ∧ 0 ≤ at_ ∧ (rd_T46 rs at_).f0 = i ∧ ∃ o a b c n m, spliceref02_Get.f (rd ws i) = some (o, a, b, c, n, true) ∧ spliceref02_Get.f (rd (rd_T44 ds f).f3 i) = some (o, a, b, c, m, true) ∧ Kinds X0 X1 f i n (rd_T46 rs at_) ∧ splicelaw13_PatchEquation.l1 k' os x7 f ws (wrap64 (at_ + 1)) rs (wrap64 (i + 1)) ds dd en X0 X1 p2 p3 p4 = some r)) := by
  have plain : ∀ k, splicelaw13_PatchEquation.j3 k os x7 f ws at_ rs i true ds dd en X0 X1 p2 p3 p4 = some r → ∃ k', k' < k ∧ 0 ≤ i ∧ 0 ≤ f ∧ f < (ds.length : Int) ∧ i < ((rd_T44 ds f).f3.length : Int) ∧ rd ws i = rd (rd_T44 ds f).f3 i ∧ splicelaw13_PatchEquation.l1 k' os x7 f ws at_ rs (wrap64 (i + 1)) ds dd en X0 X1 p2 p3 p4 = some r := by
    intro k h
    cases k with
    | zero => simp [splicelaw13_PatchEquation.j3] at h
    | succ k =>
      simp only [splicelaw13_PatchEquation.j3, if_true] at h
      by_cases g0 : 0 ≤ i
      case neg => rw [if_neg g0] at h; cases h
      rw [if_pos g0, if_pos hi] at h
      by_cases g1 : 0 ≤ f
      case neg => rw [if_neg g1] at h; cases h
      rw [if_pos g1] at h
      by_cases g2 : f < (ds.length : Int)
      case neg => rw [if_neg g2] at h; cases h
      rw [if_pos g2] at h
      by_cases g3 : i < ((rd_T44 ds f).f3.length : Int)
      case neg => rw [if_neg g3] at h; cases h
      rw [if_pos g3] at h
      by_cases g4 : rd ws i = rd (rd_T44 ds f).f3 i
      case neg => rw [if_neg g4] at h; cases h
      rw [if_pos g4] at h
      exact ⟨k, Nat.lt_succ_self k, g0, g1, g2, g3, g4, h⟩
  cases k with
  | zero => simp [splicelaw13_PatchEquation.l1] at h
  | succ k =>
    simp only [splicelaw13_PatchEquation.l1] at h
    rw [if_pos hi] at h
    by_cases ha : at_ ≥ (rs.length : Int)
    · rw [if_pos ha] at h
      obtain ⟨k', hk, g0, g1, g2, g3, g4, hn⟩ := plain k h
      exact ⟨k', by omega, g0, g1, g2, g3, .inl ⟨.inl ha, g4, hn⟩⟩
    rw [if_neg ha] at h
    by_cases a0 : 0 ≤ at_
    case neg => rw [if_neg a0] at h; cases h
    have a1 : at_ < (rs.length : Int) := by omega
    rw [if_pos a0, if_pos a1] at h
    by_cases he : (rd_T46 rs at_).f0 = i
    · have hb : ((rd_T46 rs at_).f0 != i) = false := by simp [he]
      rw [hb] at h
      cases k with
      | zero => simp [splicelaw13_PatchEquation.j3] at h
      | succ k =>
        simp only [splicelaw13_PatchEquation.j3] at h
        rw [if_neg (by decide), if_pos a0, if_pos a1] at h
        by_cases g0 : 0 ≤ i
        case neg => rw [if_neg g0] at h; cases h
        rw [if_pos g0, if_pos hi] at h
        cases q1 : spliceref02_Get.f (rd ws i) with
        | none => rw [q1] at h; cases h
        | some v1 =>
          obtain ⟨o, a, b, c, n, ok⟩ := v1
          rw [q1] at h
          simp only [Option.bind_some] at h
          by_cases g1 : 0 ≤ f
          case neg => rw [if_neg g1] at h; cases h
          rw [if_pos g1] at h
          by_cases g2 : f < (ds.length : Int)
          case neg => rw [if_neg g2] at h; cases h
          rw [if_pos g2] at h
          by_cases g3 : i < ((rd_T44 ds f).f3.length : Int)
          case neg => rw [if_neg g3] at h; cases h
          rw [if_pos g3] at h
          cases q2 : spliceref02_Get.f (rd (rd_T44 ds f).f3 i) with
          | none => rw [q2] at h; cases h
          | some v2 =>
            obtain ⟨o', a', b', c', m, ok'⟩ := v2
            rw [q2] at h
            simp only [Option.bind_some] at h
            cases ok with
            | false =>
              rw [if_neg (by decide)] at h
              obtain ⟨_, _, hb, _⟩ := j4_step h
              cases hb
            | true =>
              cases ok' with
              | false =>
                rw [if_pos rfl, if_neg (by decide)] at h
                obtain ⟨_, _, hb, _⟩ := j4_step h
                cases hb
              | true =>
                rw [if_pos rfl, if_pos rfl] at h
                obtain ⟨k', hk, hb, hK, hn⟩ := j4_step h
                simp only [Bool.or_eq_false_iff, Bool.not_eq_false', beq_iff_eq] at hb
                obtain ⟨rfl, rfl, rfl, rfl⟩ := hb
                exact ⟨k', by omega, g0, g1, g2, g3, .inr ⟨a1, a0, he, o, a, b, c, n, m, rfl, rfl, hK, hn⟩⟩
    · have hb : ((rd_T46 rs at_).f0 != i) = true := by simp [he]
      rw [hb] at h
      obtain ⟨k', hk, g0, g1, g2, g3, g4, hn⟩ := plain k h
      exact ⟨k', by omega, g0, g1, g2, g3, .inl ⟨.inr ⟨a1, a0, he⟩, g4, hn⟩⟩
end
set_option maxHeartbeats 40000000 in
set_option maxRecDepth 100000 in
theorem pe_aw (A0 : Option Addr) (c0 : Nat) (ds : List S44) (A1 : Option Addr) (c1 : Nat) (dd : List S55) (en : Int) (A2 : Option Addr) (c2 : Nat) (os : List Int) (r : Bool) (w : World) (k k2 : Nat) (ha : Aside0 (splicelaw13_awake.f k = some false)) (ha2 : Aside0 (splicelaw13_awake.f k2 = some r)) :
    Calls Try.prog 5 #[.agg #[.slice A0 ds.length c0, .slice A1 dd.length c1, .int .i64 en], .slice A2 os.length c2] w fun e w' => e = .returned (.bool r) ∧ Below w.heap.size w w' := by
  have H := Hp.nil w
  go_enter Try.func5, Try.ntmps5
  go_wp2_with (first | ((with_reducible refine gate_guardG ?_); refine hp_guardLG rfl rfl ?_; (with_reducible first | refine go_tt ?_ | refine go_ff ?_ | refine go_tf ?_ | refine go_ft ?_); (try simp only [Act.put, List.setIfInBounds_toArray, List.set_cons_zero, List.set_cons_succ])) | ((with_reducible refine gate_dst (N := 2) rfl ?_); refine hp_box H rfl rfl rfl ?_; intro gp W_ H_; clear H; have H := H_; clear H_) | ((with_reducible refine gate_loadG ?_); (first | (refine hp_wholeG H rfl (ty := 25) rfl rfl (by repeat (first | exact .head _ | refine .tail _ ?_)) (by kernel_rfl) (by kernel_rfl) ?_)); (try simp only [Act.put, List.setIfInBounds_toArray, List.set_cons_zero, List.set_cons_succ])) | ((with_reducible refine gate_dst (N := 20) rfl ?_); ((with_reducible refine gate_fnG ?_); refine hp_goesG H rfl (f := 8) rfl Try.func8 (by kernel_rfl) rfl (splicelaw13_awake.calls _ false _ ha.out) (by (try simp only [List.map_toArray, List.map_cons, List.map_nil]); first | done | rfl) ?_; rintro e_ W_ ⟨rfl, hb_⟩; refine ⟨_, rfl, hb_, fun H_ => ?_⟩; clear H; have H := H_; clear H_; (try simp only [Act.put, List.setIfInBounds_toArray, List.set_cons_zero, List.set_cons_succ]))) | ((with_reducible refine gate_dst (N := 28) rfl ?_); ((with_reducible refine gate_fnG ?_); refine hp_goesG H rfl (f := 8) rfl Try.func8 (by kernel_rfl) rfl (splicelaw13_awake.calls _ r _ ha2.out) (by (try simp only [List.map_toArray, List.map_cons, List.map_nil]); first | done | rfl) ?_; rintro e_ W_ ⟨rfl, hb_⟩; refine ⟨_, rfl, hb_, fun H_ => ?_⟩; clear H; have H := H_; clear H_; (try simp only [Act.put, List.setIfInBounds_toArray, List.set_cons_zero, List.set_cons_succ]))))
  go_ret
  exact ⟨rfl, H.below⟩
set_option maxHeartbeats 40000000 in
set_option maxRecDepth 100000 in
theorem pe_nf (A0 : Option Addr) (c0 : Nat) (ds : List S44) (A1 : Option Addr) (c1 : Nat) (dd : List S55) (en : Int) (A2 : Option Addr) (c2 : Nat) (os : List Int) (r : Bool) (w : World) (k k2 : Nat) (ha : Aside0 (splicelaw13_awake.f k = some true)) (ha2 : Aside0 (splicelaw13_awake.f k2 = some r)) (hfine : Aside0 (∀ W', Below w.heap.size w W' → Calls Try.prog 9 #[.agg #[.slice A0 ds.length c0, .slice A1 dd.length c1, .int .i64 en], .slice A2 os.length c2] W' fun e w' => e = .returned (.bool false) ∧ Below W'.heap.size W' w')) :
    Calls Try.prog 5 #[.agg #[.slice A0 ds.length c0, .slice A1 dd.length c1, .int .i64 en], .slice A2 os.length c2] w fun e w' => e = .returned (.bool r) ∧ Below w.heap.size w w' := by
  have H := Hp.nil w
  go_enter Try.func5, Try.ntmps5
  go_wp2_with (first | ((with_reducible refine gate_guardG ?_); refine hp_guardLG rfl rfl ?_; (with_reducible first | refine go_tt ?_ | refine go_ff ?_ | refine go_tf ?_ | refine go_ft ?_); (try simp only [Act.put, List.setIfInBounds_toArray, List.set_cons_zero, List.set_cons_succ])) | ((with_reducible refine gate_dst (N := 2) rfl ?_); refine hp_box H rfl rfl rfl ?_; intro gp W_ H_; clear H; have H := H_; clear H_) | ((with_reducible refine gate_loadG ?_); (first | (refine hp_wholeG H rfl (ty := 25) rfl rfl (by repeat (first | exact .head _ | refine .tail _ ?_)) (by kernel_rfl) (by kernel_rfl) ?_)); (try simp only [Act.put, List.setIfInBounds_toArray, List.set_cons_zero, List.set_cons_succ])) | ((with_reducible refine gate_dst (N := 20) rfl ?_); ((with_reducible refine gate_fnG ?_); refine hp_goesG H rfl (f := 8) rfl Try.func8 (by kernel_rfl) rfl (splicelaw13_awake.calls _ true _ ha.out) (by (try simp only [List.map_toArray, List.map_cons, List.map_nil]); first | done | rfl) ?_; rintro e_ W_ ⟨rfl, hb_⟩; refine ⟨_, rfl, hb_, fun H_ => ?_⟩; clear H; have H := H_; clear H_; (try simp only [Act.put, List.setIfInBounds_toArray, List.set_cons_zero, List.set_cons_succ]))) | ((with_reducible refine gate_dst (N := 25) rfl ?_); ((with_reducible refine gate_fnG ?_); refine hp_goesG H rfl (f := 9) rfl Try.func9 (by kernel_rfl) rfl (hfine.out _ H.below) (by (try simp only [List.map_toArray, List.map_cons, List.map_nil]); first | done | rfl) ?_; rintro e_ W_ ⟨rfl, hb_⟩; refine ⟨_, rfl, hb_, fun H_ => ?_⟩; clear H; have H := H_; clear H_; (try simp only [Act.put, List.setIfInBounds_toArray, List.set_cons_zero, List.set_cons_succ]))) | ((with_reducible refine gate_dst (N := 28) rfl ?_); ((with_reducible refine gate_fnG ?_); refine hp_goesG H rfl (f := 8) rfl Try.func8 (by kernel_rfl) rfl (splicelaw13_awake.calls _ r _ ha2.out) (by (try simp only [List.map_toArray, List.map_cons, List.map_nil]); first | done | rfl) ?_; rintro e_ W_ ⟨rfl, hb_⟩; refine ⟨_, rfl, hb_, fun H_ => ?_⟩; clear H; have H := H_; clear H_; (try simp only [Act.put, List.setIfInBounds_toArray, List.set_cons_zero, List.set_cons_succ]))))
  go_ret
  exact ⟨rfl, H.below⟩
set_option maxHeartbeats 40000000 in
set_option maxRecDepth 100000 in
theorem pe_pl (A0 : Option Addr) (c0 : Nat) (ds : List S44) (A1 : Option Addr) (c1 : Nat) (dd : List S55) (en : Int) (A2 : Option Addr) (c2 : Nat) (os : List Int) (r : Bool) (w : World) (k k3 : Nat) (ha : Aside0 (splicelaw13_awake.f k = some true)) (hfine : Aside0 (∀ W', Below w.heap.size w W' → Calls Try.prog 9 #[.agg #[.slice A0 ds.length c0, .slice A1 dd.length c1, .int .i64 en], .slice A2 os.length c2] W' fun e w' => e = .returned (.bool true) ∧ Below W'.heap.size W' w')) (X0 X1 : List Int) (p2 p3 p4 p5 : Int) (h5 : ¬ p5 = 0) (hr : r = true) (h0 : Aside0 (Kd.C k44 w A0 ds.length ds)) (g0 : ds.length ≤ c0) (h1 : Aside0 (Kd.C k55 w A1 dd.length dd)) (g1 : dd.length ≤ c1) (h2 : Aside0 (Kd.C (Kd.int .i64) w A2 os.length os)) (g2 : os.length ≤ c2) (hp : Aside0 (place_Plan.f k3 ds dd en os = some (X0, X1, p2, p3, p4, p5))) :
    Calls Try.prog 5 #[.agg #[.slice A0 ds.length c0, .slice A1 dd.length c1, .int .i64 en], .slice A2 os.length c2] w fun e w' => e = .returned (.bool r) ∧ Below w.heap.size w w' := by
  subst hr
  have H := Hp.nil w
  go_enter Try.func5, Try.ntmps5
  go_wp2_with (first | ((with_reducible refine gate_guardG ?_); refine hp_guardLG rfl rfl ?_; (with_reducible first | refine go_tt ?_ | refine go_ff ?_ | refine go_tf ?_ | refine go_ft ?_); (try simp only [Act.put, List.setIfInBounds_toArray, List.set_cons_zero, List.set_cons_succ])) | ((with_reducible refine gate_dst (N := 2) rfl ?_); refine hp_box H rfl rfl rfl ?_; intro gp W_ H_; clear H; have H := H_; clear H_) | ((with_reducible refine gate_loadG ?_); (first | (refine hp_wholeG H rfl (ty := 25) rfl rfl (by repeat (first | exact .head _ | refine .tail _ ?_)) (by kernel_rfl) (by kernel_rfl) ?_)); (try simp only [Act.put, List.setIfInBounds_toArray, List.set_cons_zero, List.set_cons_succ])) | ((with_reducible refine gate_dst (N := 20) rfl ?_); ((with_reducible refine gate_fnG ?_); refine hp_goesG H rfl (f := 8) rfl Try.func8 (by kernel_rfl) rfl (splicelaw13_awake.calls _ true _ ha.out) (by (try simp only [List.map_toArray, List.map_cons, List.map_nil]); first | done | rfl) ?_; rintro e_ W_ ⟨rfl, hb_⟩; refine ⟨_, rfl, hb_, fun H_ => ?_⟩; clear H; have H := H_; clear H_; (try simp only [Act.put, List.setIfInBounds_toArray, List.set_cons_zero, List.set_cons_succ]))) | ((with_reducible refine gate_dst (N := 25) rfl ?_); ((with_reducible refine gate_fnG ?_); refine hp_goesG H rfl (f := 9) rfl Try.func9 (by kernel_rfl) rfl (hfine.out _ H.below) (by (try simp only [List.map_toArray, List.map_cons, List.map_nil]); first | done | rfl) ?_; rintro e_ W_ ⟨rfl, hb_⟩; refine ⟨_, rfl, hb_, fun H_ => ?_⟩; clear H; have H := H_; clear H_; (try simp only [Act.put, List.setIfInBounds_toArray, List.set_cons_zero, List.set_cons_succ]))) | ((with_reducible refine gate_dst (N := 32) rfl ?_); ((with_reducible refine gate_fnG ?_); refine hp_goesG H rfl (f := 10) rfl Try.func10 (by kernel_rfl) rfl (place_Plan.calls k3 A0 c0 ds A1 c1 dd en A2 c2 os X0 X1 p2 p3 p4 p5 _ (Kd.C_below h0.out H.below) g0 (Kd.C_below h1.out H.below) g1 (Kd.C_below h2.out H.below) g2 hp.out) (by (try simp only [List.map_toArray, List.map_cons, List.map_nil]); first | done | rfl) ?_; rintro e_ W1 ⟨v0, v1, rfl, hR0, hR1, hb_⟩; refine ⟨_, rfl, hb_, fun H_ => ?_⟩; obtain ⟨B0, b0, rfl, gb0, hX0⟩ := Kd.R_reads hR0; obtain ⟨B1, b1, rfl, gb1, hX1⟩ := Kd.R_reads hR1; clear hR0 hR1; replace hX0 := Aside0.mk hX0; replace hX1 := Aside0.mk hX1; have fP := Aside0.mk (H_.heap (g := gp) (cs := #[.slice A0 ds.length c0, .slice A1 dd.length c1, .int .i64 en]) (t := 25) (by repeat (first | exact .head _ | refine .tail _ ?_))); have hw := Aside0.mk H_.below; have H00 := Aside0.mk (Hp.nil W1); clear H H_; have H := Hp.nil W1; (try simp only [Act.put, List.setIfInBounds_toArray, List.set_cons_zero, List.set_cons_succ]))) | ((with_reducible refine gate_dst (N := 5) rfl ?_); refine hp_alloc H rfl rfl (fun w_ => by go_simp; rfl) ?_; intro gx W_ H_; clear H; have H := H_; clear H_) | ((with_reducible refine gate_storeG ?_); ((first | (refine hp_store0G H rfl rfl rfl rfl rfl (by kernel_rfl) (by first | rfl | exact fit_.out) (by rfl) (by first | exact putAll rfl) ?_)); intro W_ H_; clear H; have H := H_; clear H_); (try simp only [Act.put, List.setIfInBounds_toArray, List.set_cons_zero, List.set_cons_succ])))
  go_ret
  exact ⟨rfl, below_step hw.out H.below⟩
set_option maxHeartbeats 40000000 in
set_option maxRecDepth 100000 in
theorem pe_go (A0 : Option Addr) (c0 : Nat) (ds : List S44) (A1 : Option Addr) (c1 : Nat) (dd : List S55) (en : Int) (A2 : Option Addr) (c2 : Nat) (os : List Int) (r : Bool) (w : World) (k k3 k4 : Nat) (ha : Aside0 (splicelaw13_awake.f k = some true)) (hfine : Aside0 (∀ W', Below w.heap.size w W' → Calls Try.prog 9 #[.agg #[.slice A0 ds.length c0, .slice A1 dd.length c1, .int .i64 en], .slice A2 os.length c2] W' fun e w' => e = .returned (.bool true) ∧ Below W'.heap.size W' w')) (X0 X1 : List Int) (p2 p3 p4 : Int) (h0 : Aside0 (Kd.C k44 w A0 ds.length ds)) (g0 : ds.length ≤ c0) (h1 : Aside0 (Kd.C k55 w A1 dd.length dd)) (g1 : dd.length ≤ c1) (h2 : Aside0 (Kd.C (Kd.int .i64) w A2 os.length os)) (g2 : os.length ≤ c2) (hp : Aside0 (place_Plan.f k3 ds dd en os = some (X0, X1, p2, p3, p4, 0))) (hl : splicelaw13_PatchEquation.l0 k4 os 0 ds dd en X0 X1 p2 p3 p4 = some r) :
    Calls Try.prog 5 #[.agg #[.slice A0 ds.length c0, .slice A1 dd.length c1, .int .i64 en], .slice A2 os.length c2] w fun e w' => e = .returned (.bool r) ∧ Below w.heap.size w w' := by
  have H := Hp.nil w
  replace hl := Aside0.mk hl
  go_enter Try.func5, Try.ntmps5
  go_wp2_with (first | ((with_reducible refine gate_guardG ?_); refine hp_guardLG rfl rfl ?_; (with_reducible first | refine go_tt ?_ | refine go_ff ?_ | refine go_tf ?_ | refine go_ft ?_); (try simp only [Act.put, List.setIfInBounds_toArray, List.set_cons_zero, List.set_cons_succ])) | ((with_reducible refine gate_dst (N := 2) rfl ?_); refine hp_box H rfl rfl rfl ?_; intro gp W_ H_; clear H; have H := H_; clear H_) | ((with_reducible refine gate_loadG ?_); (first | (refine hp_wholeG H rfl (ty := 25) rfl rfl (by repeat (first | exact .head _ | refine .tail _ ?_)) (by kernel_rfl) (by kernel_rfl) ?_)); (try simp only [Act.put, List.setIfInBounds_toArray, List.set_cons_zero, List.set_cons_succ])) | ((with_reducible refine gate_dst (N := 20) rfl ?_); ((with_reducible refine gate_fnG ?_); refine hp_goesG H rfl (f := 8) rfl Try.func8 (by kernel_rfl) rfl (splicelaw13_awake.calls _ true _ ha.out) (by (try simp only [List.map_toArray, List.map_cons, List.map_nil]); first | done | rfl) ?_; rintro e_ W_ ⟨rfl, hb_⟩; refine ⟨_, rfl, hb_, fun H_ => ?_⟩; clear H; have H := H_; clear H_; (try simp only [Act.put, List.setIfInBounds_toArray, List.set_cons_zero, List.set_cons_succ]))) | ((with_reducible refine gate_dst (N := 25) rfl ?_); ((with_reducible refine gate_fnG ?_); refine hp_goesG H rfl (f := 9) rfl Try.func9 (by kernel_rfl) rfl (hfine.out _ H.below) (by (try simp only [List.map_toArray, List.map_cons, List.map_nil]); first | done | rfl) ?_; rintro e_ W_ ⟨rfl, hb_⟩; refine ⟨_, rfl, hb_, fun H_ => ?_⟩; clear H; have H := H_; clear H_; (try simp only [Act.put, List.setIfInBounds_toArray, List.set_cons_zero, List.set_cons_succ]))) | ((with_reducible refine gate_dst (N := 32) rfl ?_); ((with_reducible refine gate_fnG ?_); refine hp_goesG H rfl (f := 10) rfl Try.func10 (by kernel_rfl) rfl (place_Plan.calls k3 A0 c0 ds A1 c1 dd en A2 c2 os X0 X1 p2 p3 p4 0 _ (Kd.C_below h0.out H.below) g0 (Kd.C_below h1.out H.below) g1 (Kd.C_below h2.out H.below) g2 hp.out) (by (try simp only [List.map_toArray, List.map_cons, List.map_nil]); first | done | rfl) ?_; rintro e_ W1 ⟨v0, v1, rfl, hR0, hR1, hb_⟩; refine ⟨_, rfl, hb_, fun H_ => ?_⟩; obtain ⟨B0, b0, rfl, gb0, hX0⟩ := Kd.R_reads hR0; obtain ⟨B1, b1, rfl, gb1, hX1⟩ := Kd.R_reads hR1; clear hR0 hR1; replace hX0 := Aside0.mk hX0; replace hX1 := Aside0.mk hX1; have fP := Aside0.mk (H_.heap (g := gp) (cs := #[.slice A0 ds.length c0, .slice A1 dd.length c1, .int .i64 en]) (t := 25) (by repeat (first | exact .head _ | refine .tail _ ?_))); have hw := Aside0.mk H_.below; have H00 := Aside0.mk (Hp.nil W1); clear H H_; have H := Hp.nil W1; (try simp only [Act.put, List.setIfInBounds_toArray, List.set_cons_zero, List.set_cons_succ]))) | ((with_reducible refine gate_dst (N := 5) rfl ?_); refine hp_alloc H rfl rfl (fun w_ => by go_simp; rfl) ?_; intro gx W_ H_; clear H; have H := H_; clear H_) | ((with_reducible refine gate_storeG ?_); ((first | (refine hp_store0G H rfl rfl rfl rfl rfl (by kernel_rfl) (by first | rfl | exact fit_.out) (by rfl) (by first | exact putAll rfl) ?_)); intro W_ H_; clear H; have H := H_; clear H_); (try simp only [Act.put, List.setIfInBounds_toArray, List.set_cons_zero, List.set_cons_succ])))
  go_loopg [7] k4 (fun kq v7 w' => ∃ (i : Int), v7 = .int .i64 i ∧ Aside0 (splicelaw13_PatchEquation.l0 kq os i ds dd en X0 X1 p2 p3 p4 = some r) ∧ Hp W1 w' [(gx, #[.slice B0 X0.length b0, .slice B1 X1.length b1, .int .i64 p2, .int .i64 p3, .int .i64 p4], 30)])
  case atStart => exact ⟨0, rfl, hl, H⟩
  case round =>
    clear H hl H00
    obtain ⟨i, rfl, hl, H⟩ := hrel
    replace hl := hl.out
    cases gk with
    | zero => simp [splicelaw13_PatchEquation.l0] at hl
    | succ q =>
    simp only [splicelaw13_PatchEquation.l0] at hl
    by_cases hi : i < (os.length : Int)
    case neg =>
      rw [if_neg hi] at hl
      obtain rfl := Option.some.inj hl
      clear hl
      go_wp2
      go_ret
      exact ⟨rfl, below_step hw.out H.below⟩
    rw [if_pos hi] at hl
    by_cases hi0 : 0 ≤ i
    case neg => rw [if_neg hi0] at hl; cases hl
    rw [if_pos hi0] at hl
    obtain ⟨ad2, rfl, ho⟩ := Kd.at_int h2.out i hi0 hi
    replace ho := Aside0.mk ho
    cases hc : patch_Code.f q ds dd en X0 X1 p2 p3 p4 (rd os i) with
    | none => rw [hc] at hl; cases hl
    | some v =>
    obtain ⟨ws, e5⟩ := v
    rw [hc] at hl
    simp only [Option.bind_some] at hl
    obtain ⟨kc, hkc⟩ : ∃ kc, kc = q := ⟨q, rfl⟩
    rw [← hkc] at hc
    replace hkc := Aside0.mk hkc
    replace hc := Aside0.mk hc
    by_cases he5 : e5 = 0
    case neg =>
      rw [if_neg he5] at hl
      replace hl := Aside0.mk hl
      go_wp2_with (first | ((with_reducible refine gate_guardG ?_); refine hp_guardLG rfl rfl ?_; (with_reducible first | refine go_tt ?_ | refine go_ff ?_ | refine go_tf ?_ | refine go_ft ?_); (try simp only [Act.put, List.setIfInBounds_toArray, List.set_cons_zero, List.set_cons_succ])) | ((with_reducible refine gate_dst (N := 46) rfl ?_); ((with_reducible refine gate_loadG ?_); refine hp_atXG rfl rfl rfl (((below_step hw.out H.below).cell (World.block_lt_of_cell? _ _ ho.out)).trans ho.out) (by kernel_rfl) ?_; (try simp only [Act.put, List.setIfInBounds_toArray, List.set_cons_zero, List.set_cons_succ]))) | ((with_reducible refine gate_dst (N := 48) rfl ?_); ((with_reducible refine gate_loadG ?_); refine hp_wholeXG (ty := 25) rfl rfl rfl ((H.below.block _ (blk_lt fP.out)).trans fP.out) (by kernel_rfl) (by kernel_rfl) ?_; (try simp only [Act.put, List.setIfInBounds_toArray, List.set_cons_zero, List.set_cons_succ]))) | ((with_reducible refine gate_dst (N := 49) rfl ?_); ((with_reducible refine gate_loadG ?_); (first | (refine hp_wholeG H rfl (ty := 30) rfl rfl (by repeat (first | exact .head _ | refine .tail _ ?_)) (by kernel_rfl) (by kernel_rfl) ?_)); (try simp only [Act.put, List.setIfInBounds_toArray, List.set_cons_zero, List.set_cons_succ]))) | ((with_reducible refine gate_dst (N := 51) rfl ?_); ((with_reducible refine gate_fnG ?_); refine hp_goesG H rfl (f := 11) rfl Try.func11 (by kernel_rfl) rfl (patch_Code.calls kc _ c0 ds A1 c1 dd en B0 b0 X0 B1 b1 X1 p2 p3 p4 (rd os i) ws e5 _ (Kd.C_below h0.out (below_step hw.out H.below)) g0 (Kd.C_below h1.out (below_step hw.out H.below)) g1 (Kd.C_below hX0.out H.below) gb0 (Kd.C_below hX1.out H.below) gb1 hc.out) (by (try simp only [List.map_toArray, List.map_cons, List.map_nil]); first | done | rfl) ?_; rintro e_ Wb ⟨v0, rfl, hRw, hb_⟩; refine ⟨_, rfl, hb_, fun H_ => ?_⟩; obtain ⟨Bw, bw, rfl, gbw, hWs⟩ := Kd.R_reads hRw; clear hRw; replace hWs := Aside0.mk hWs; have fX := Aside0.mk (H_.heap (g := gx) (cs := #[.slice B0 X0.length b0, .slice B1 X1.length b1, .int .i64 p2, .int .i64 p3, .int .i64 p4]) (t := 30) (by repeat (first | exact .head _ | refine .tail _ ?_))); have fP2 := Aside0.mk ((H_.below.block _ (blk_lt fP.out)).trans fP.out); have hwb := Aside0.mk (below_step hw.out H_.below); have hX0b := Aside0.mk (Kd.C_below hX0.out H_.below); have hX1b := Aside0.mk (Kd.C_below hX1.out H_.below); have H00 := Aside0.mk H_; clear H H_; have H := Hp.nil Wb; (try simp only [Act.put, List.setIfInBounds_toArray, List.set_cons_zero, List.set_cons_succ]))))
      go_roundg q
      case measure => omega
      case rel => exact ⟨_, rfl, hl, H00.out.call H.below⟩
    rw [if_pos he5] at hl
    subst he5
    by_cases f0 : 0 ≤ rd os i
    case neg => rw [if_neg f0] at hl; cases hl
    rw [if_pos f0] at hl
    by_cases f1 : rd os i < (ds.length : Int)
    case neg => rw [if_neg f1] at hl; cases hl
    rw [if_pos f1] at hl
    replace hl := Aside0.mk hl
    obtain ⟨f, hf⟩ : ∃ f, rd os i = f := ⟨_, rfl⟩
    rw [hf] at hl f0 f1 ho hc
    obtain ⟨adf, A3, c3, A4, c4, ea, _, _, _, z3, z4, gl3, hA3, gl4, hA4⟩ := at_T44 h0.out f f0 f1
    subst ea
    replace z3 := Aside0.mk z3
    replace z4 := Aside0.mk z4
    replace hA3 := Aside0.mk hA3
    replace hA4 := Aside0.mk hA4
    go_wp2_with (first | ((with_reducible refine gate_guardG ?_); refine hp_guardLG rfl rfl ?_; (with_reducible first | refine go_tt ?_ | refine go_ff ?_ | refine go_tf ?_ | refine go_ft ?_); (try simp only [Act.put, List.setIfInBounds_toArray, List.set_cons_zero, List.set_cons_succ])) | ((with_reducible refine gate_dst (N := 46) rfl ?_); ((with_reducible refine gate_loadG ?_); refine hp_atXG rfl rfl rfl (((below_step hw.out H.below).cell (World.block_lt_of_cell? _ _ ho.out)).trans ho.out) (by kernel_rfl) ?_; (try simp only [Act.put, List.setIfInBounds_toArray, List.set_cons_zero, List.set_cons_succ]))) | ((with_reducible refine gate_dst (N := 48) rfl ?_); ((with_reducible refine gate_loadG ?_); refine hp_wholeXG (ty := 25) rfl rfl rfl ((H.below.block _ (blk_lt fP.out)).trans fP.out) (by kernel_rfl) (by kernel_rfl) ?_; (try simp only [Act.put, List.setIfInBounds_toArray, List.set_cons_zero, List.set_cons_succ]))) | ((with_reducible refine gate_dst (N := 49) rfl ?_); ((with_reducible refine gate_loadG ?_); (first | (refine hp_wholeG H rfl (ty := 30) rfl rfl (by repeat (first | exact .head _ | refine .tail _ ?_)) (by kernel_rfl) (by kernel_rfl) ?_)); (try simp only [Act.put, List.setIfInBounds_toArray, List.set_cons_zero, List.set_cons_succ]))) | ((with_reducible refine gate_dst (N := 51) rfl ?_); ((with_reducible refine gate_fnG ?_); refine hp_goesG H rfl (f := 11) rfl Try.func11 (by kernel_rfl) rfl (patch_Code.calls kc _ c0 ds A1 c1 dd en B0 b0 X0 B1 b1 X1 p2 p3 p4 f ws 0 _ (Kd.C_below h0.out (below_step hw.out H.below)) g0 (Kd.C_below h1.out (below_step hw.out H.below)) g1 (Kd.C_below hX0.out H.below) gb0 (Kd.C_below hX1.out H.below) gb1 hc.out) (by (try simp only [List.map_toArray, List.map_cons, List.map_nil]); first | done | rfl) ?_; rintro e_ Wb ⟨v0, rfl, hRw, hb_⟩; refine ⟨_, rfl, hb_, fun H_ => ?_⟩; obtain ⟨Bw, bw, rfl, gbw, hWs⟩ := Kd.R_reads hRw; clear hRw; replace hWs := Aside0.mk hWs; have fX := Aside0.mk (H_.heap (g := gx) (cs := #[.slice B0 X0.length b0, .slice B1 X1.length b1, .int .i64 p2, .int .i64 p3, .int .i64 p4]) (t := 30) (by repeat (first | exact .head _ | refine .tail _ ?_))); have fP2 := Aside0.mk ((H_.below.block _ (blk_lt fP.out)).trans fP.out); have hwb := Aside0.mk (below_step hw.out H_.below); have hX0b := Aside0.mk (Kd.C_below hX0.out H_.below); have hX1b := Aside0.mk (Kd.C_below hX1.out H_.below); have H00 := Aside0.mk H_; clear H H_; have H := Hp.nil Wb; (try simp only [Act.put, List.setIfInBounds_toArray, List.set_cons_zero, List.set_cons_succ]))) | ((with_reducible refine gate_dst (N := 57) rfl ?_); ((with_reducible refine gate_loadG ?_); refine hp_loadXG rfl rfl rfl ((H.below.block _ (blk_lt fP2.out)).trans fP2.out) (by kernel_rfl) (by exact rfl) ?_; (try simp only [Act.put, List.setIfInBounds_toArray, List.set_cons_zero, List.set_cons_succ]))) | ((with_reducible refine gate_dst (N := 61) rfl ?_); ((with_reducible refine gate_loadG ?_); refine hp_atXG rfl rfl rfl (((below_step hwb.out H.below).cell (World.block_lt_of_cell? _ _ z4.out)).trans z4.out) (by kernel_rfl) ?_; (try simp only [Act.put, List.setIfInBounds_toArray, List.set_cons_zero, List.set_cons_succ]))))
    go_loopg [11, 13] q (fun kq v11 v13 w' => ∃ (u j : Int), v11 = .int .i64 u ∧ v13 = .int .i64 j ∧ Aside0 (splicelaw13_PatchEquation.l1 kq os i f ws u (rd_T44 ds f).f4 j ds dd en X0 X1 p2 p3 p4 = some r) ∧ Aside0 (kq ≤ q) ∧ Hp Wb w' [])
    case atStart => exact ⟨0, 0, rfl, rfl, hl, ⟨Nat.le_refl _⟩, H⟩
    case round =>
      clear H hl
      obtain ⟨u, j, rfl, rfl, hl, hq, H⟩ := hrel
      replace hl := hl.out
      by_cases hj : j < (ws.length : Int)
      case neg =>
        cases gk with
        | zero => simp [splicelaw13_PatchEquation.l1] at hl
        | succ q2 =>
        simp only [splicelaw13_PatchEquation.l1] at hl
        rw [if_neg hj] at hl
        replace hl := Aside0.mk hl
        go_wp2
        go_roundg q2
        case measure => have := hq.out; omega
        case rel => exact ⟨_, rfl, hl, H00.out.call H.below⟩
      obtain ⟨k5, hk5, g0, g1, g2, g3, hcase⟩ := l1_step hl hj
      clear hl
      obtain ⟨adw, rfl, xw⟩ := Kd.at_int hWs.out j g0 hj
      obtain ⟨adc, rfl, xc⟩ := Kd.at_int hA3.out j g0 g3
      replace xw := Aside0.mk xw
      replace xc := Aside0.mk xc
      have hk6 : Aside0 (k5 ≤ q) := ⟨by have := hq.out; omega⟩
      rcases hcase with ⟨ha, hv, hn⟩ | ⟨a1, a0, h0j, o, aa, b, c, n, m, hG1, hG2, hK, hn⟩
      · rw [hv] at xw
        clear hv
        replace hn := Aside0.mk hn
        rcases ha with ha | ⟨a1, a0, hne⟩
        · go_wp2_with (first | ((with_reducible refine gate_guardG ?_); refine hp_guardLG rfl rfl ?_; (with_reducible first | refine go_tt ?_ | refine go_ff ?_ | refine go_tf ?_ | refine go_ft ?_); (try simp only [Act.put, List.setIfInBounds_toArray, List.set_cons_zero, List.set_cons_succ])) | ((with_reducible refine gate_draw ?_); have q0_ := (H.below.cell (World.block_lt_of_cell? _ _ xw.out)).trans xw.out; have q1_ := (blk_cell ((H.below.block _ (blk_lt fP2.out)).trans fP2.out) 0).trans rfl; have q2_ := ((below_step hwb.out H.below).cell (World.block_lt_of_cell? _ _ z3.out)).trans z3.out; have q3_ := ((below_step hwb.out H.below).cell (World.block_lt_of_cell? _ _ xc.out)).trans xc.out; go_quiet (fail); clear q0_ q1_ q2_ q3_; have H := H.drewN nq; generalize World.drewN _ nq = Wq_ at *))
          go_roundg k5
          case measure => omega
          case rel => exact ⟨_, _, rfl, rfl, hn, hk6, H⟩
        · have nge : ¬ u ≥ ((rd_T44 ds f).f4.length : Int) := by omega
          obtain ⟨ad4, rfl, y0, y1, y2, y3⟩ := at_T46 hA4.out u a0 a1
          generalize rd_T46 (rd_T44 ds f).f4 u = R at *
          replace y0 := Aside0.mk y0
          clear y1 y2 y3
          go_wp2_with (first | ((with_reducible refine gate_guardG ?_); refine hp_guardLG rfl rfl ?_; (with_reducible first | refine go_tt ?_ | refine go_ff ?_ | refine go_tf ?_ | refine go_ft ?_); (try simp only [Act.put, List.setIfInBounds_toArray, List.set_cons_zero, List.set_cons_succ])) | ((with_reducible refine gate_dst (N := 77) rfl ?_); ((with_reducible refine gate_loadG ?_); refine hp_atXG rfl rfl rfl (((below_step hwb.out H.below).cell (World.block_lt_of_cell? _ _ y0.out)).trans y0.out) (by kernel_rfl) ?_; (try simp only [Act.put, List.setIfInBounds_toArray, List.set_cons_zero, List.set_cons_succ]))) | ((with_reducible refine gate_draw ?_); have q0_ := (H.below.cell (World.block_lt_of_cell? _ _ xw.out)).trans xw.out; have q1_ := (blk_cell ((H.below.block _ (blk_lt fP2.out)).trans fP2.out) 0).trans rfl; have q2_ := ((below_step hwb.out H.below).cell (World.block_lt_of_cell? _ _ z3.out)).trans z3.out; have q3_ := ((below_step hwb.out H.below).cell (World.block_lt_of_cell? _ _ xc.out)).trans xc.out; go_quiet (fail); clear q0_ q1_ q2_ q3_; have H := H.drewN nq; generalize World.drewN _ nq = Wq_ at *))
          go_roundg k5
          case measure => omega
          case rel => exact ⟨_, _, rfl, rfl, hn, hk6, H⟩
      · have nge : ¬ u ≥ ((rd_T44 ds f).f4.length : Int) := by omega
        obtain ⟨ad4, rfl, y0, y1, y2, y3⟩ := at_T46 hA4.out u a0 a1
        obtain ⟨hK1, hK2, hK3⟩ := hK
        generalize rd_T46 (rd_T44 ds f).f4 u = R at *
        obtain ⟨R0, R1, R2, R3⟩ := R
        simp only at h0j y0 y1 y2 y3 hK1 hK2 hK3
        subst h0j
        replace hn := Aside0.mk hn
        replace hG1 := Aside0.mk hG1
        replace hG2 := Aside0.mk hG2
        replace y0 := Aside0.mk y0
        replace y1 := Aside0.mk y1
        replace y2 := Aside0.mk y2
        replace y3 := Aside0.mk y3
        by_cases r1 : R1 = 1
        · obtain ⟨_, u1, u2, u3, ue⟩ := hK1 r1
          clear hK1 hK2 hK3
          subst r1
          obtain ⟨ad0, rfl, xa⟩ := Kd.at_int hX0b.out f g1 u1
          obtain ⟨ad0', ea, xb⟩ := Kd.at_int hX0b.out R2 u2 u3
          obtain rfl := Option.some.inj ea
          clear ea
          rw [← ue] at xb
          clear ue
          replace xa := Aside0.mk xa
          replace xb := Aside0.mk xb
          go_wp2_with (first | ((with_reducible refine gate_guardG ?_); refine hp_guardLG rfl rfl ?_; (with_reducible first | refine go_tt ?_ | refine go_ff ?_ | refine go_tf ?_ | refine go_ft ?_); (try simp only [Act.put, List.setIfInBounds_toArray, List.set_cons_zero, List.set_cons_succ])) | ((with_reducible refine gate_dst (N := 14) rfl ?_); refine hp_alloc H rfl rfl (fun w_ => by go_simp; rfl) ?_; intro gr W_ H_; clear H; have H := H_; clear H_) | ((with_reducible refine gate_dst (N := 15) rfl ?_); refine hp_alloc H rfl rfl (fun w_ => by go_simp; rfl) ?_; intro ga W_ H_; clear H; have H := H_; clear H_) | ((with_reducible refine gate_dst (N := 17) rfl ?_); refine hp_alloc H rfl rfl (fun w_ => by go_simp; rfl) ?_; intro gb W_ H_; clear H; have H := H_; clear H_) | ((with_reducible refine gate_dst (N := 77) rfl ?_); ((with_reducible refine gate_loadG ?_); refine hp_atXG rfl rfl rfl (((below_step hwb.out H.below).cell (World.block_lt_of_cell? _ _ y0.out)).trans y0.out) (by kernel_rfl) ?_; (try simp only [Act.put, List.setIfInBounds_toArray, List.set_cons_zero, List.set_cons_succ]))) | ((with_reducible refine gate_dst (N := 98) rfl ?_); ((with_reducible refine gate_loadG ?_); refine hp_cellsXG rfl rfl rfl (cells4 (((below_step hwb.out H.below).cell (World.block_lt_of_cell? _ _ y0.out)).trans y0.out) (((below_step hwb.out H.below).cell (World.block_lt_of_cell? _ _ y1.out)).trans y1.out) (((below_step hwb.out H.below).cell (World.block_lt_of_cell? _ _ y2.out)).trans y2.out) (((below_step hwb.out H.below).cell (World.block_lt_of_cell? _ _ y3.out)).trans y3.out)) (by kernel_rfl) (by kernel_rfl) ?_; (try simp only [Act.put, List.setIfInBounds_toArray, List.set_cons_zero, List.set_cons_succ]))) | ((with_reducible refine gate_dst (N := 105) rfl ?_); ((with_reducible refine gate_loadG ?_); refine hp_atXG rfl rfl rfl ((H.below.cell (World.block_lt_of_cell? _ _ xw.out)).trans xw.out) (by kernel_rfl) ?_; (try simp only [Act.put, List.setIfInBounds_toArray, List.set_cons_zero, List.set_cons_succ]))) | ((with_reducible refine gate_dst (N := 106) rfl ?_); ((with_reducible refine gate_fnG ?_); refine hp_goesG H rfl (f := 17) rfl Try.func17 (by kernel_rfl) rfl (spliceref02_Get.calls _ _ _ _ _ _ _ _ hG1.out) (by (try simp only [List.map_toArray, List.map_cons, List.map_nil]); first | done | rfl) ?_; rintro e_ W_ ⟨rfl, hb_⟩; refine ⟨_, rfl, hb_, fun H_ => ?_⟩; clear H; have H := H_; clear H_; (try simp only [Act.put, List.setIfInBounds_toArray, List.set_cons_zero, List.set_cons_succ]))) | ((with_reducible refine gate_dst (N := 111) rfl ?_); ((with_reducible refine gate_loadG ?_); refine hp_loadXG rfl rfl rfl ((H.below.block _ (blk_lt fP2.out)).trans fP2.out) (by kernel_rfl) (by exact rfl) ?_; (try simp only [Act.put, List.setIfInBounds_toArray, List.set_cons_zero, List.set_cons_succ]))) | ((with_reducible refine gate_dst (N := 115) rfl ?_); ((with_reducible refine gate_loadG ?_); refine hp_atXG rfl rfl rfl (((below_step hwb.out H.below).cell (World.block_lt_of_cell? _ _ z3.out)).trans z3.out) (by kernel_rfl) ?_; (try simp only [Act.put, List.setIfInBounds_toArray, List.set_cons_zero, List.set_cons_succ]))) | ((with_reducible refine gate_dst (N := 118) rfl ?_); ((with_reducible refine gate_loadG ?_); refine hp_atXG rfl rfl rfl (((below_step hwb.out H.below).cell (World.block_lt_of_cell? _ _ xc.out)).trans xc.out) (by kernel_rfl) ?_; (try simp only [Act.put, List.setIfInBounds_toArray, List.set_cons_zero, List.set_cons_succ]))) | ((with_reducible refine gate_dst (N := 119) rfl ?_); ((with_reducible refine gate_fnG ?_); refine hp_goesG H rfl (f := 17) rfl Try.func17 (by kernel_rfl) rfl (spliceref02_Get.calls _ _ _ _ _ _ _ _ hG2.out) (by (try simp only [List.map_toArray, List.map_cons, List.map_nil]); first | done | rfl) ?_; rintro e_ W_ ⟨rfl, hb_⟩; refine ⟨_, rfl, hb_, fun H_ => ?_⟩; clear H; have H := H_; clear H_; (try simp only [Act.put, List.setIfInBounds_toArray, List.set_cons_zero, List.set_cons_succ]))) | ((with_reducible refine gate_dst (N := 123) rfl ?_); ((with_reducible refine gate_loadG ?_); (refine hp_loadG H rfl rfl rfl (by repeat (first | exact .head _ | refine .tail _ ?_)) (by kernel_rfl) (by first | exact rfl) ?_); (try simp only [Act.put, List.setIfInBounds_toArray, List.set_cons_zero, List.set_cons_succ]))) | ((with_reducible refine gate_dst (N := 125) rfl ?_); ((with_reducible refine gate_loadG ?_); (refine hp_loadG H rfl rfl rfl (by repeat (first | exact .head _ | refine .tail _ ?_)) (by kernel_rfl) (by first | exact rfl) ?_); (try simp only [Act.put, List.setIfInBounds_toArray, List.set_cons_zero, List.set_cons_succ]))) | ((with_reducible refine gate_dst (N := 134) rfl ?_); ((with_reducible refine gate_loadG ?_); (first | (refine hp_wholeG H rfl (ty := 49) rfl rfl (by repeat (first | exact .head _ | refine .tail _ ?_)) (by kernel_rfl) (by kernel_rfl) ?_)); (try simp only [Act.put, List.setIfInBounds_toArray, List.set_cons_zero, List.set_cons_succ]))) | ((with_reducible refine gate_dst (N := 135) rfl ?_); ((with_reducible refine gate_loadG ?_); (first | (refine hp_wholeG H rfl (ty := 49) rfl rfl (by repeat (first | exact .head _ | refine .tail _ ?_)) (by kernel_rfl) (by kernel_rfl) ?_)); (try simp only [Act.put, List.setIfInBounds_toArray, List.set_cons_zero, List.set_cons_succ]))) | ((with_reducible refine gate_storeG ?_); ((first | (refine hp_store0G H rfl rfl rfl rfl rfl (by kernel_rfl) (by first | rfl | exact fit_.out) (by rfl) (by first | exact putAll rfl | exact rfl) ?_) | (refine hp_store1G H rfl rfl rfl rfl rfl (by kernel_rfl) (by first | rfl | exact fit_.out) (by rfl) (by first | exact putAll rfl | exact rfl) ?_) | (refine hp_store2G H rfl rfl rfl rfl rfl (by kernel_rfl) (by first | rfl | exact fit_.out) (by rfl) (by first | exact putAll rfl | exact rfl) ?_)); intro W_ H_; clear H; have H := H_; clear H_); (try simp only [Act.put, List.setIfInBounds_toArray, List.set_cons_zero, List.set_cons_succ])) | ((with_reducible refine gate_draw ?_); (first | (have h28_ := xb.out; clear h28_) | skip); have q0_ := H.cell (g := gr) (by repeat (first | exact .head _ | refine .tail _ ?_)) 1 rfl; have q1_ := (blk_cell ((H.below.block _ (blk_lt fX.out)).trans fX.out) 0).trans rfl; have q2_ := (H.below.cell (World.block_lt_of_cell? _ _ xa.out)).trans xa.out; have q3_ := H.cell (g := gr) (by repeat (first | exact .head _ | refine .tail _ ?_)) 2 rfl; have q4_ := (H.below.cell (World.block_lt_of_cell? _ _ xb.out)).trans xb.out; go_quiet (fail); clear q0_ q1_ q2_ q3_ q4_; have H := H.drewN nq; generalize World.drewN _ nq = Wq_ at *))
          (try go_wp2_with (first | ((with_reducible refine gate_guardG ?_); refine hp_guardLG rfl rfl ?_; (with_reducible first | refine go_tt ?_ | refine go_ff ?_ | refine go_tf ?_ | refine go_ft ?_); (try simp only [Act.put, List.setIfInBounds_toArray, List.set_cons_zero, List.set_cons_succ])) | ((with_reducible refine gate_draw ?_); (first | (have h28_ := xb.out; clear h28_) | skip); have q0_ := H.cell (g := gr) (by repeat (first | exact .head _ | refine .tail _ ?_)) 1 rfl; have q1_ := (blk_cell ((H.below.block _ (blk_lt fX.out)).trans fX.out) 0).trans rfl; have q2_ := (H.below.cell (World.block_lt_of_cell? _ _ xa.out)).trans xa.out; have q3_ := H.cell (g := gr) (by repeat (first | exact .head _ | refine .tail _ ?_)) 2 rfl; have q4_ := (H.below.cell (World.block_lt_of_cell? _ _ xb.out)).trans xb.out; go_quiet (fail); clear q0_ q1_ q2_ q3_ q4_; have H := H.drewN nq; generalize World.drewN _ nq = Wq_ at *)))
          go_roundg k5
          case measure => omega
          case rel => exact ⟨_, _, rfl, rfl, hn, hk6, H.sub (List.nil_sublist _)⟩
        by_cases r2 : R1 = 2
        · obtain ⟨u2, u3, ue⟩ := hK2 r2
          clear hK1 hK2 hK3 r1
          subst r2
          obtain ⟨ad0, rfl, xa⟩ := Kd.at_int hX1b.out R2 u2 u3
          replace xa := Aside0.mk xa
          generalize rd X1 R2 = y at *
          subst ue
          go_wp2_with (first | ((with_reducible refine gate_guardG ?_); refine hp_guardLG rfl rfl ?_; (with_reducible first | refine go_tt ?_ | refine go_ff ?_ | refine go_tf ?_ | refine go_ft ?_); (try simp only [Act.put, List.setIfInBounds_toArray, List.set_cons_zero, List.set_cons_succ])) | ((with_reducible refine gate_dst (N := 14) rfl ?_); refine hp_alloc H rfl rfl (fun w_ => by go_simp; rfl) ?_; intro gr W_ H_; clear H; have H := H_; clear H_) | ((with_reducible refine gate_dst (N := 15) rfl ?_); refine hp_alloc H rfl rfl (fun w_ => by go_simp; rfl) ?_; intro ga W_ H_; clear H; have H := H_; clear H_) | ((with_reducible refine gate_dst (N := 17) rfl ?_); refine hp_alloc H rfl rfl (fun w_ => by go_simp; rfl) ?_; intro gb W_ H_; clear H; have H := H_; clear H_) | ((with_reducible refine gate_dst (N := 77) rfl ?_); ((with_reducible refine gate_loadG ?_); refine hp_atXG rfl rfl rfl (((below_step hwb.out H.below).cell (World.block_lt_of_cell? _ _ y0.out)).trans y0.out) (by kernel_rfl) ?_; (try simp only [Act.put, List.setIfInBounds_toArray, List.set_cons_zero, List.set_cons_succ]))) | ((with_reducible refine gate_dst (N := 98) rfl ?_); ((with_reducible refine gate_loadG ?_); refine hp_cellsXG rfl rfl rfl (cells4 (((below_step hwb.out H.below).cell (World.block_lt_of_cell? _ _ y0.out)).trans y0.out) (((below_step hwb.out H.below).cell (World.block_lt_of_cell? _ _ y1.out)).trans y1.out) (((below_step hwb.out H.below).cell (World.block_lt_of_cell? _ _ y2.out)).trans y2.out) (((below_step hwb.out H.below).cell (World.block_lt_of_cell? _ _ y3.out)).trans y3.out)) (by kernel_rfl) (by kernel_rfl) ?_; (try simp only [Act.put, List.setIfInBounds_toArray, List.set_cons_zero, List.set_cons_succ]))) | ((with_reducible refine gate_dst (N := 105) rfl ?_); ((with_reducible refine gate_loadG ?_); refine hp_atXG rfl rfl rfl ((H.below.cell (World.block_lt_of_cell? _ _ xw.out)).trans xw.out) (by kernel_rfl) ?_; (try simp only [Act.put, List.setIfInBounds_toArray, List.set_cons_zero, List.set_cons_succ]))) | ((with_reducible refine gate_dst (N := 106) rfl ?_); ((with_reducible refine gate_fnG ?_); refine hp_goesG H rfl (f := 17) rfl Try.func17 (by kernel_rfl) rfl (spliceref02_Get.calls _ _ _ _ _ _ _ _ hG1.out) (by (try simp only [List.map_toArray, List.map_cons, List.map_nil]); first | done | rfl) ?_; rintro e_ W_ ⟨rfl, hb_⟩; refine ⟨_, rfl, hb_, fun H_ => ?_⟩; clear H; have H := H_; clear H_; (try simp only [Act.put, List.setIfInBounds_toArray, List.set_cons_zero, List.set_cons_succ]))) | ((with_reducible refine gate_dst (N := 111) rfl ?_); ((with_reducible refine gate_loadG ?_); refine hp_loadXG rfl rfl rfl ((H.below.block _ (blk_lt fP2.out)).trans fP2.out) (by kernel_rfl) (by exact rfl) ?_; (try simp only [Act.put, List.setIfInBounds_toArray, List.set_cons_zero, List.set_cons_succ]))) | ((with_reducible refine gate_dst (N := 115) rfl ?_); ((with_reducible refine gate_loadG ?_); refine hp_atXG rfl rfl rfl (((below_step hwb.out H.below).cell (World.block_lt_of_cell? _ _ z3.out)).trans z3.out) (by kernel_rfl) ?_; (try simp only [Act.put, List.setIfInBounds_toArray, List.set_cons_zero, List.set_cons_succ]))) | ((with_reducible refine gate_dst (N := 118) rfl ?_); ((with_reducible refine gate_loadG ?_); refine hp_atXG rfl rfl rfl (((below_step hwb.out H.below).cell (World.block_lt_of_cell? _ _ xc.out)).trans xc.out) (by kernel_rfl) ?_; (try simp only [Act.put, List.setIfInBounds_toArray, List.set_cons_zero, List.set_cons_succ]))) | ((with_reducible refine gate_dst (N := 119) rfl ?_); ((with_reducible refine gate_fnG ?_); refine hp_goesG H rfl (f := 17) rfl Try.func17 (by kernel_rfl) rfl (spliceref02_Get.calls _ _ _ _ _ _ _ _ hG2.out) (by (try simp only [List.map_toArray, List.map_cons, List.map_nil]); first | done | rfl) ?_; rintro e_ W_ ⟨rfl, hb_⟩; refine ⟨_, rfl, hb_, fun H_ => ?_⟩; clear H; have H := H_; clear H_; (try simp only [Act.put, List.setIfInBounds_toArray, List.set_cons_zero, List.set_cons_succ]))) | ((with_reducible refine gate_dst (N := 123) rfl ?_); ((with_reducible refine gate_loadG ?_); (refine hp_loadG H rfl rfl rfl (by repeat (first | exact .head _ | refine .tail _ ?_)) (by kernel_rfl) (by first | exact rfl) ?_); (try simp only [Act.put, List.setIfInBounds_toArray, List.set_cons_zero, List.set_cons_succ]))) | ((with_reducible refine gate_dst (N := 125) rfl ?_); ((with_reducible refine gate_loadG ?_); (refine hp_loadG H rfl rfl rfl (by repeat (first | exact .head _ | refine .tail _ ?_)) (by kernel_rfl) (by first | exact rfl) ?_); (try simp only [Act.put, List.setIfInBounds_toArray, List.set_cons_zero, List.set_cons_succ]))) | ((with_reducible refine gate_dst (N := 134) rfl ?_); ((with_reducible refine gate_loadG ?_); (first | (refine hp_wholeG H rfl (ty := 49) rfl rfl (by repeat (first | exact .head _ | refine .tail _ ?_)) (by kernel_rfl) (by kernel_rfl) ?_)); (try simp only [Act.put, List.setIfInBounds_toArray, List.set_cons_zero, List.set_cons_succ]))) | ((with_reducible refine gate_dst (N := 135) rfl ?_); ((with_reducible refine gate_loadG ?_); (first | (refine hp_wholeG H rfl (ty := 49) rfl rfl (by repeat (first | exact .head _ | refine .tail _ ?_)) (by kernel_rfl) (by kernel_rfl) ?_)); (try simp only [Act.put, List.setIfInBounds_toArray, List.set_cons_zero, List.set_cons_succ]))) | ((with_reducible refine gate_storeG ?_); ((first | (refine hp_store0G H rfl rfl rfl rfl rfl (by kernel_rfl) (by first | rfl | exact fit_.out) (by rfl) (by first | exact putAll rfl | exact rfl) ?_) | (refine hp_store1G H rfl rfl rfl rfl rfl (by kernel_rfl) (by first | rfl | exact fit_.out) (by rfl) (by first | exact putAll rfl | exact rfl) ?_) | (refine hp_store2G H rfl rfl rfl rfl rfl (by kernel_rfl) (by first | rfl | exact fit_.out) (by rfl) (by first | exact putAll rfl | exact rfl) ?_)); intro W_ H_; clear H; have H := H_; clear H_); (try simp only [Act.put, List.setIfInBounds_toArray, List.set_cons_zero, List.set_cons_succ])) | ((with_reducible refine gate_draw ?_); have q0_ := H.cell (g := gr) (by repeat (first | exact .head _ | refine .tail _ ?_)) 1 rfl; have q1_ := (blk_cell ((H.below.block _ (blk_lt fX.out)).trans fX.out) 1).trans rfl; have q2_ := (H.below.cell (World.block_lt_of_cell? _ _ xa.out)).trans xa.out; have q3_ := H.cell (g := gr) (by repeat (first | exact .head _ | refine .tail _ ?_)) 2 rfl; have q4_ := H.cell (g := gr) (by repeat (first | exact .head _ | refine .tail _ ?_)) 3 rfl; go_quiet (fail); clear q0_ q1_ q2_ q3_ q4_; have H := H.drewN nq; generalize World.drewN _ nq = Wq_ at *))
          (try go_wp2_with (first | ((with_reducible refine gate_guardG ?_); refine hp_guardLG rfl rfl ?_; (with_reducible first | refine go_tt ?_ | refine go_ff ?_ | refine go_tf ?_ | refine go_ft ?_); (try simp only [Act.put, List.setIfInBounds_toArray, List.set_cons_zero, List.set_cons_succ])) | ((with_reducible refine gate_draw ?_); have q0_ := H.cell (g := gr) (by repeat (first | exact .head _ | refine .tail _ ?_)) 1 rfl; have q1_ := (blk_cell ((H.below.block _ (blk_lt fX.out)).trans fX.out) 1).trans rfl; have q2_ := (H.below.cell (World.block_lt_of_cell? _ _ xa.out)).trans xa.out; have q3_ := H.cell (g := gr) (by repeat (first | exact .head _ | refine .tail _ ?_)) 2 rfl; have q4_ := H.cell (g := gr) (by repeat (first | exact .head _ | refine .tail _ ?_)) 3 rfl; go_quiet (fail); clear q0_ q1_ q2_ q3_ q4_; have H := H.drewN nq; generalize World.drewN _ nq = Wq_ at *)))
          go_roundg k5
          case measure => omega
          case rel => exact ⟨_, _, rfl, rfl, hn, hk6, H.sub (List.nil_sublist _)⟩
        by_cases r3 : R1 = 3
        · obtain ⟨u2, u3, ue⟩ := hK3 r3
          clear hK1 hK2 hK3 r1 r2
          subst r3
          obtain ⟨ad0, rfl, xa⟩ := Kd.at_int hX1b.out R2 u2 u3
          replace xa := Aside0.mk xa
          generalize rd X1 R2 = y at *
          subst ue
          go_wp2_with (first | ((with_reducible refine gate_guardG ?_); refine hp_guardLG rfl rfl ?_; (with_reducible first | refine go_tt ?_ | refine go_ff ?_ | refine go_tf ?_ | refine go_ft ?_); (try simp only [Act.put, List.setIfInBounds_toArray, List.set_cons_zero, List.set_cons_succ])) | ((with_reducible refine gate_dst (N := 14) rfl ?_); refine hp_alloc H rfl rfl (fun w_ => by go_simp; rfl) ?_; intro gr W_ H_; clear H; have H := H_; clear H_) | ((with_reducible refine gate_dst (N := 15) rfl ?_); refine hp_alloc H rfl rfl (fun w_ => by go_simp; rfl) ?_; intro ga W_ H_; clear H; have H := H_; clear H_) | ((with_reducible refine gate_dst (N := 17) rfl ?_); refine hp_alloc H rfl rfl (fun w_ => by go_simp; rfl) ?_; intro gb W_ H_; clear H; have H := H_; clear H_) | ((with_reducible refine gate_dst (N := 77) rfl ?_); ((with_reducible refine gate_loadG ?_); refine hp_atXG rfl rfl rfl (((below_step hwb.out H.below).cell (World.block_lt_of_cell? _ _ y0.out)).trans y0.out) (by kernel_rfl) ?_; (try simp only [Act.put, List.setIfInBounds_toArray, List.set_cons_zero, List.set_cons_succ]))) | ((with_reducible refine gate_dst (N := 98) rfl ?_); ((with_reducible refine gate_loadG ?_); refine hp_cellsXG rfl rfl rfl (cells4 (((below_step hwb.out H.below).cell (World.block_lt_of_cell? _ _ y0.out)).trans y0.out) (((below_step hwb.out H.below).cell (World.block_lt_of_cell? _ _ y1.out)).trans y1.out) (((below_step hwb.out H.below).cell (World.block_lt_of_cell? _ _ y2.out)).trans y2.out) (((below_step hwb.out H.below).cell (World.block_lt_of_cell? _ _ y3.out)).trans y3.out)) (by kernel_rfl) (by kernel_rfl) ?_; (try simp only [Act.put, List.setIfInBounds_toArray, List.set_cons_zero, List.set_cons_succ]))) | ((with_reducible refine gate_dst (N := 105) rfl ?_); ((with_reducible refine gate_loadG ?_); refine hp_atXG rfl rfl rfl ((H.below.cell (World.block_lt_of_cell? _ _ xw.out)).trans xw.out) (by kernel_rfl) ?_; (try simp only [Act.put, List.setIfInBounds_toArray, List.set_cons_zero, List.set_cons_succ]))) | ((with_reducible refine gate_dst (N := 106) rfl ?_); ((with_reducible refine gate_fnG ?_); refine hp_goesG H rfl (f := 17) rfl Try.func17 (by kernel_rfl) rfl (spliceref02_Get.calls _ _ _ _ _ _ _ _ hG1.out) (by (try simp only [List.map_toArray, List.map_cons, List.map_nil]); first | done | rfl) ?_; rintro e_ W_ ⟨rfl, hb_⟩; refine ⟨_, rfl, hb_, fun H_ => ?_⟩; clear H; have H := H_; clear H_; (try simp only [Act.put, List.setIfInBounds_toArray, List.set_cons_zero, List.set_cons_succ]))) | ((with_reducible refine gate_dst (N := 111) rfl ?_); ((with_reducible refine gate_loadG ?_); refine hp_loadXG rfl rfl rfl ((H.below.block _ (blk_lt fP2.out)).trans fP2.out) (by kernel_rfl) (by exact rfl) ?_; (try simp only [Act.put, List.setIfInBounds_toArray, List.set_cons_zero, List.set_cons_succ]))) | ((with_reducible refine gate_dst (N := 115) rfl ?_); ((with_reducible refine gate_loadG ?_); refine hp_atXG rfl rfl rfl (((below_step hwb.out H.below).cell (World.block_lt_of_cell? _ _ z3.out)).trans z3.out) (by kernel_rfl) ?_; (try simp only [Act.put, List.setIfInBounds_toArray, List.set_cons_zero, List.set_cons_succ]))) | ((with_reducible refine gate_dst (N := 118) rfl ?_); ((with_reducible refine gate_loadG ?_); refine hp_atXG rfl rfl rfl (((below_step hwb.out H.below).cell (World.block_lt_of_cell? _ _ xc.out)).trans xc.out) (by kernel_rfl) ?_; (try simp only [Act.put, List.setIfInBounds_toArray, List.set_cons_zero, List.set_cons_succ]))) | ((with_reducible refine gate_dst (N := 119) rfl ?_); ((with_reducible refine gate_fnG ?_); refine hp_goesG H rfl (f := 17) rfl Try.func17 (by kernel_rfl) rfl (spliceref02_Get.calls _ _ _ _ _ _ _ _ hG2.out) (by (try simp only [List.map_toArray, List.map_cons, List.map_nil]); first | done | rfl) ?_; rintro e_ W_ ⟨rfl, hb_⟩; refine ⟨_, rfl, hb_, fun H_ => ?_⟩; clear H; have H := H_; clear H_; (try simp only [Act.put, List.setIfInBounds_toArray, List.set_cons_zero, List.set_cons_succ]))) | ((with_reducible refine gate_dst (N := 123) rfl ?_); ((with_reducible refine gate_loadG ?_); (refine hp_loadG H rfl rfl rfl (by repeat (first | exact .head _ | refine .tail _ ?_)) (by kernel_rfl) (by first | exact rfl) ?_); (try simp only [Act.put, List.setIfInBounds_toArray, List.set_cons_zero, List.set_cons_succ]))) | ((with_reducible refine gate_dst (N := 125) rfl ?_); ((with_reducible refine gate_loadG ?_); (refine hp_loadG H rfl rfl rfl (by repeat (first | exact .head _ | refine .tail _ ?_)) (by kernel_rfl) (by first | exact rfl) ?_); (try simp only [Act.put, List.setIfInBounds_toArray, List.set_cons_zero, List.set_cons_succ]))) | ((with_reducible refine gate_dst (N := 134) rfl ?_); ((with_reducible refine gate_loadG ?_); (first | (refine hp_wholeG H rfl (ty := 49) rfl rfl (by repeat (first | exact .head _ | refine .tail _ ?_)) (by kernel_rfl) (by kernel_rfl) ?_)); (try simp only [Act.put, List.setIfInBounds_toArray, List.set_cons_zero, List.set_cons_succ]))) | ((with_reducible refine gate_dst (N := 135) rfl ?_); ((with_reducible refine gate_loadG ?_); (first | (refine hp_wholeG H rfl (ty := 49) rfl rfl (by repeat (first | exact .head _ | refine .tail _ ?_)) (by kernel_rfl) (by kernel_rfl) ?_)); (try simp only [Act.put, List.setIfInBounds_toArray, List.set_cons_zero, List.set_cons_succ]))) | ((with_reducible refine gate_storeG ?_); ((first | (refine hp_store0G H rfl rfl rfl rfl rfl (by kernel_rfl) (by first | rfl | exact fit_.out) (by rfl) (by first | exact putAll rfl | exact rfl) ?_) | (refine hp_store1G H rfl rfl rfl rfl rfl (by kernel_rfl) (by first | rfl | exact fit_.out) (by rfl) (by first | exact putAll rfl | exact rfl) ?_) | (refine hp_store2G H rfl rfl rfl rfl rfl (by kernel_rfl) (by first | rfl | exact fit_.out) (by rfl) (by first | exact putAll rfl | exact rfl) ?_)); intro W_ H_; clear H; have H := H_; clear H_); (try simp only [Act.put, List.setIfInBounds_toArray, List.set_cons_zero, List.set_cons_succ])) | ((with_reducible refine gate_draw ?_); have q0_ := H.cell (g := gr) (by repeat (first | exact .head _ | refine .tail _ ?_)) 1 rfl; have q1_ := (blk_cell ((H.below.block _ (blk_lt fX.out)).trans fX.out) 1).trans rfl; have q2_ := (H.below.cell (World.block_lt_of_cell? _ _ xa.out)).trans xa.out; have q3_ := H.cell (g := gr) (by repeat (first | exact .head _ | refine .tail _ ?_)) 2 rfl; have q4_ := H.cell (g := gr) (by repeat (first | exact .head _ | refine .tail _ ?_)) 3 rfl; go_quiet (fail); clear q0_ q1_ q2_ q3_ q4_; have H := H.drewN nq; generalize World.drewN _ nq = Wq_ at *))
          (try go_wp2_with (first | ((with_reducible refine gate_guardG ?_); refine hp_guardLG rfl rfl ?_; (with_reducible first | refine go_tt ?_ | refine go_ff ?_ | refine go_tf ?_ | refine go_ft ?_); (try simp only [Act.put, List.setIfInBounds_toArray, List.set_cons_zero, List.set_cons_succ])) | ((with_reducible refine gate_draw ?_); have q0_ := H.cell (g := gr) (by repeat (first | exact .head _ | refine .tail _ ?_)) 1 rfl; have q1_ := (blk_cell ((H.below.block _ (blk_lt fX.out)).trans fX.out) 1).trans rfl; have q2_ := (H.below.cell (World.block_lt_of_cell? _ _ xa.out)).trans xa.out; have q3_ := H.cell (g := gr) (by repeat (first | exact .head _ | refine .tail _ ?_)) 2 rfl; have q4_ := H.cell (g := gr) (by repeat (first | exact .head _ | refine .tail _ ?_)) 3 rfl; go_quiet (fail); clear q0_ q1_ q2_ q3_ q4_; have H := H.drewN nq; generalize World.drewN _ nq = Wq_ at *)))
          go_roundg k5
          case measure => omega
          case rel => exact ⟨_, _, rfl, rfl, hn, hk6, H.sub (List.nil_sublist _)⟩
        clear hK1 hK2 hK3
        go_wp2_with (first | ((with_reducible refine gate_guardG ?_); refine hp_guardLG rfl rfl ?_; (with_reducible first | refine go_tt ?_ | refine go_ff ?_ | refine go_tf ?_ | refine go_ft ?_); (try simp only [Act.put, List.setIfInBounds_toArray, List.set_cons_zero, List.set_cons_succ])) | ((with_reducible refine gate_dst (N := 14) rfl ?_); refine hp_alloc H rfl rfl (fun w_ => by go_simp; rfl) ?_; intro gr W_ H_; clear H; have H := H_; clear H_) | ((with_reducible refine gate_dst (N := 15) rfl ?_); refine hp_alloc H rfl rfl (fun w_ => by go_simp; rfl) ?_; intro ga W_ H_; clear H; have H := H_; clear H_) | ((with_reducible refine gate_dst (N := 17) rfl ?_); refine hp_alloc H rfl rfl (fun w_ => by go_simp; rfl) ?_; intro gb W_ H_; clear H; have H := H_; clear H_) | ((with_reducible refine gate_dst (N := 77) rfl ?_); ((with_reducible refine gate_loadG ?_); refine hp_atXG rfl rfl rfl (((below_step hwb.out H.below).cell (World.block_lt_of_cell? _ _ y0.out)).trans y0.out) (by kernel_rfl) ?_; (try simp only [Act.put, List.setIfInBounds_toArray, List.set_cons_zero, List.set_cons_succ]))) | ((with_reducible refine gate_dst (N := 98) rfl ?_); ((with_reducible refine gate_loadG ?_); refine hp_cellsXG rfl rfl rfl (cells4 (((below_step hwb.out H.below).cell (World.block_lt_of_cell? _ _ y0.out)).trans y0.out) (((below_step hwb.out H.below).cell (World.block_lt_of_cell? _ _ y1.out)).trans y1.out) (((below_step hwb.out H.below).cell (World.block_lt_of_cell? _ _ y2.out)).trans y2.out) (((below_step hwb.out H.below).cell (World.block_lt_of_cell? _ _ y3.out)).trans y3.out)) (by kernel_rfl) (by kernel_rfl) ?_; (try simp only [Act.put, List.setIfInBounds_toArray, List.set_cons_zero, List.set_cons_succ]))) | ((with_reducible refine gate_dst (N := 105) rfl ?_); ((with_reducible refine gate_loadG ?_); refine hp_atXG rfl rfl rfl ((H.below.cell (World.block_lt_of_cell? _ _ xw.out)).trans xw.out) (by kernel_rfl) ?_; (try simp only [Act.put, List.setIfInBounds_toArray, List.set_cons_zero, List.set_cons_succ]))) | ((with_reducible refine gate_dst (N := 106) rfl ?_); ((with_reducible refine gate_fnG ?_); refine hp_goesG H rfl (f := 17) rfl Try.func17 (by kernel_rfl) rfl (spliceref02_Get.calls _ _ _ _ _ _ _ _ hG1.out) (by (try simp only [List.map_toArray, List.map_cons, List.map_nil]); first | done | rfl) ?_; rintro e_ W_ ⟨rfl, hb_⟩; refine ⟨_, rfl, hb_, fun H_ => ?_⟩; clear H; have H := H_; clear H_; (try simp only [Act.put, List.setIfInBounds_toArray, List.set_cons_zero, List.set_cons_succ]))) | ((with_reducible refine gate_dst (N := 111) rfl ?_); ((with_reducible refine gate_loadG ?_); refine hp_loadXG rfl rfl rfl ((H.below.block _ (blk_lt fP2.out)).trans fP2.out) (by kernel_rfl) (by exact rfl) ?_; (try simp only [Act.put, List.setIfInBounds_toArray, List.set_cons_zero, List.set_cons_succ]))) | ((with_reducible refine gate_dst (N := 115) rfl ?_); ((with_reducible refine gate_loadG ?_); refine hp_atXG rfl rfl rfl (((below_step hwb.out H.below).cell (World.block_lt_of_cell? _ _ z3.out)).trans z3.out) (by kernel_rfl) ?_; (try simp only [Act.put, List.setIfInBounds_toArray, List.set_cons_zero, List.set_cons_succ]))) | ((with_reducible refine gate_dst (N := 118) rfl ?_); ((with_reducible refine gate_loadG ?_); refine hp_atXG rfl rfl rfl (((below_step hwb.out H.below).cell (World.block_lt_of_cell? _ _ xc.out)).trans xc.out) (by kernel_rfl) ?_; (try simp only [Act.put, List.setIfInBounds_toArray, List.set_cons_zero, List.set_cons_succ]))) | ((with_reducible refine gate_dst (N := 119) rfl ?_); ((with_reducible refine gate_fnG ?_); refine hp_goesG H rfl (f := 17) rfl Try.func17 (by kernel_rfl) rfl (spliceref02_Get.calls _ _ _ _ _ _ _ _ hG2.out) (by (try simp only [List.map_toArray, List.map_cons, List.map_nil]); first | done | rfl) ?_; rintro e_ W_ ⟨rfl, hb_⟩; refine ⟨_, rfl, hb_, fun H_ => ?_⟩; clear H; have H := H_; clear H_; (try simp only [Act.put, List.setIfInBounds_toArray, List.set_cons_zero, List.set_cons_succ]))) | ((with_reducible refine gate_dst (N := 123) rfl ?_); ((with_reducible refine gate_loadG ?_); (refine hp_loadG H rfl rfl rfl (by repeat (first | exact .head _ | refine .tail _ ?_)) (by kernel_rfl) (by first | exact rfl) ?_); (try simp only [Act.put, List.setIfInBounds_toArray, List.set_cons_zero, List.set_cons_succ]))) | ((with_reducible refine gate_dst (N := 125) rfl ?_); ((with_reducible refine gate_loadG ?_); (refine hp_loadG H rfl rfl rfl (by repeat (first | exact .head _ | refine .tail _ ?_)) (by kernel_rfl) (by first | exact rfl) ?_); (try simp only [Act.put, List.setIfInBounds_toArray, List.set_cons_zero, List.set_cons_succ]))) | ((with_reducible refine gate_dst (N := 134) rfl ?_); ((with_reducible refine gate_loadG ?_); (first | (refine hp_wholeG H rfl (ty := 49) rfl rfl (by repeat (first | exact .head _ | refine .tail _ ?_)) (by kernel_rfl) (by kernel_rfl) ?_)); (try simp only [Act.put, List.setIfInBounds_toArray, List.set_cons_zero, List.set_cons_succ]))) | ((with_reducible refine gate_dst (N := 135) rfl ?_); ((with_reducible refine gate_loadG ?_); (first | (refine hp_wholeG H rfl (ty := 49) rfl rfl (by repeat (first | exact .head _ | refine .tail _ ?_)) (by kernel_rfl) (by kernel_rfl) ?_)); (try simp only [Act.put, List.setIfInBounds_toArray, List.set_cons_zero, List.set_cons_succ]))) | ((with_reducible refine gate_storeG ?_); ((first | (refine hp_store0G H rfl rfl rfl rfl rfl (by kernel_rfl) (by first | rfl | exact fit_.out) (by rfl) (by first | exact putAll rfl | exact rfl) ?_) | (refine hp_store1G H rfl rfl rfl rfl rfl (by kernel_rfl) (by first | rfl | exact fit_.out) (by rfl) (by first | exact putAll rfl | exact rfl) ?_) | (refine hp_store2G H rfl rfl rfl rfl rfl (by kernel_rfl) (by first | rfl | exact fit_.out) (by rfl) (by first | exact putAll rfl | exact rfl) ?_)); intro W_ H_; clear H; have H := H_; clear H_); (try simp only [Act.put, List.setIfInBounds_toArray, List.set_cons_zero, List.set_cons_succ])) | ((with_reducible refine gate_draw ?_); have q0_ := H.cell (g := gr) (by repeat (first | exact .head _ | refine .tail _ ?_)) 1 rfl; go_quiet (fail); clear q0_; have H := H.drewN nq; generalize World.drewN _ nq = Wq_ at *))
        (try go_wp2_with (first | ((with_reducible refine gate_guardG ?_); refine hp_guardLG rfl rfl ?_; (with_reducible first | refine go_tt ?_ | refine go_ff ?_ | refine go_tf ?_ | refine go_ft ?_); (try simp only [Act.put, List.setIfInBounds_toArray, List.set_cons_zero, List.set_cons_succ])) | ((with_reducible refine gate_draw ?_); have q0_ := H.cell (g := gr) (by repeat (first | exact .head _ | refine .tail _ ?_)) 1 rfl; go_quiet (fail); clear q0_; have H := H.drewN nq; generalize World.drewN _ nq = Wq_ at *)))
        go_roundg k5
        case measure => omega
        case rel => exact ⟨_, _, rfl, rfl, hn, hk6, H.sub (List.nil_sublist _)⟩
end Go.Proofs.Ytdnfofhfllnhiaa.Pe
end
section
/- The law PatchEquation: its contract, in the print's own form. Own work; a template. -/
namespace Go.Proofs.Ytdnfofhfllnhiaa.Q
open Go.RowKit Go.Proofs.YtdnfofhfllnhiaaW.PrintWords Go.Proofs.YtdnfofhfllnhiaaW.PrintLast Go.Proofs.YtdnfofhfllnhiaaW.PrintMore Go.Proofs.Ytdnfofhfllnhiaa.Hp Go.Proofs.Ytdnfofhfllnhiaa.Pe
set_option linter.unusedVariables false
theorem splicelaw13_PatchEquation.calls (k : Nat) (A0_0 : Option Addr) (c0_0 : Nat) (l0_0 : List S44) (A0_1 : Option Addr) (c0_1 : Nat) (l0_1 : List S55) (a0_2 : Int) (A1 : Option Addr) (c1 : Nat) (l1 : List Int) (r : Bool) (w : World) (hr0_0 : Kd.C k44 w A0_0 l0_0.length l0_0) (hc0_0 : l0_0.length ≤ c0_0) (hr0_1 : Kd.C k55 w A0_1 l0_1.length l0_1) (hc0_1 : l0_1.length ≤ c0_1) (hr1 : Kd.C (Kd.int .i64) w A1 l1.length l1) (hc1 : l1.length ≤ c1) (h : splicelaw13_PatchEquation.f k l0_0 l0_1 a0_2 l1 = some r) :
    Calls Try.prog 5 #[.agg #[.slice A0_0 l0_0.length c0_0, .slice A0_1 l0_1.length c0_1, .int .i64 a0_2], .slice A1 l1.length c1] w fun e w' => e = .returned (.bool r) ∧ Below w.heap.size w w' := by
  unfold splicelaw13_PatchEquation.f at h
  cases ha : splicelaw13_awake.f k with
  | none => rw [ha] at h; cases h
  | some b =>
  rw [ha] at h
  simp only [Option.bind_some] at h
  have turned : ∀ k, splicelaw13_PatchEquation.j0 k l1 true l0_0 l0_1 a0_2 = some r → ∃ k2, splicelaw13_awake.f k2 = some r := fun k h => by
    cases k with
    | zero => simp [splicelaw13_PatchEquation.j0] at h
    | succ k =>
      simp only [splicelaw13_PatchEquation.j0, if_true] at h
      cases ha2 : splicelaw13_awake.f k with
      | none => rw [ha2] at h; cases h
      | some b2 =>
        rw [ha2] at h
        exact ⟨k, ha2.trans h⟩
  cases b with
  | false =>
    rw [if_neg (by decide)] at h
    obtain ⟨k2, h2⟩ := turned k h
    exact pe_aw A0_0 c0_0 l0_0 A0_1 c0_1 l0_1 a0_2 A1 c1 l1 r w k k2 ⟨ha⟩ ⟨h2⟩
  | true =>
    rw [if_pos rfl] at h
    cases hf : splicelaw13_fine.f k l0_0 l0_1 a0_2 l1 with
    | none => rw [hf] at h; cases h
    | some fb =>
    rw [hf] at h
    simp only [Option.bind_some] at h
    have hfine := fun (W' : World) (hW : Below w.heap.size w W') => splicelaw13_fine.calls k A0_0 c0_0 l0_0 A0_1 c0_1 l0_1 a0_2 A1 c1 l1 fb W' (Kd.C_below hr0_0 hW) hc0_0 (Kd.C_below hr0_1 hW) hc0_1 (Kd.C_below hr1 hW) hc1 hf
    cases fb with
    | false =>
      obtain ⟨k2, h2⟩ := turned k h
      exact pe_nf A0_0 c0_0 l0_0 A0_1 c0_1 l0_1 a0_2 A1 c1 l1 r w k k2 ⟨ha⟩ ⟨h2⟩ ⟨hfine⟩
    | true =>
      cases k with
      | zero => simp [splicelaw13_PatchEquation.j0] at h
      | succ k =>
        simp only [splicelaw13_PatchEquation.j0] at h
        rw [if_neg (by decide)] at h
        cases hp : place_Plan.f k l0_0 l0_1 a0_2 l1 with
        | none => rw [hp] at h; cases h
        | some v =>
          obtain ⟨X0, X1, p2, p3, p4, p5⟩ := v
          rw [hp] at h
          simp only [Option.bind_some] at h
          by_cases h5 : p5 = 0
          · rw [if_pos h5] at h
            subst h5
            exact pe_go A0_0 c0_0 l0_0 A0_1 c0_1 l0_1 a0_2 A1 c1 l1 r w (k + 1) k k ⟨ha⟩ ⟨hfine⟩ X0 X1 p2 p3 p4 ⟨hr0_0⟩ hc0_0 ⟨hr0_1⟩ hc0_1 ⟨hr1⟩ hc1 ⟨hp⟩ h
          · rw [if_neg h5] at h
            exact pe_pl A0_0 c0_0 l0_0 A0_1 c0_1 l0_1 a0_2 A1 c1 l1 r w (k + 1) k ⟨ha⟩ ⟨hfine⟩ X0 X1 p2 p3 p4 p5 h5 (Option.some.inj h).symm ⟨hr0_0⟩ hc0_0 ⟨hr0_1⟩ hc0_1 ⟨hr1⟩ hc1 ⟨hp⟩
end Go.Proofs.Ytdnfofhfllnhiaa.Q
end
section
-- Written by drv.py, a program of this session, over the kit's print, out of the translation. Not trusted: Lean checks it.
/- The row of the law splicelaw13_PatchEquation: whatever its arguments, the call returns true, and each argument reads behind it as it read before. No conditions. -/
namespace Go.Proofs.Ytdnfofhfllnhiaa.patchEquation
open Go.ChangeShapes Go.WideShapes Go.ChangeAt Go.RowKit Go.Proofs.Ytdnfofhfllnhiaa.Q Go.Proofs.YtdnfofhfllnhiaaW.PrintWords
open Go.ChangeMaps (open_string shut_string)
set_option linter.unusedVariables false
theorem own : ownKnob Try.prog.godebug = none := by kernel_rfl
theorem laidOut : laidOutB Try.prog = true := by kernel_rfl
set_option maxRecDepth 100000 in
set_option maxHeartbeats 4000000 in
theorem lifted (os : Os) (started : os.Started) (H : Type) (enc : TypeId × Value → H) :
    ReturnsInHanded {} Try.checked os 5 .any (Rows.patchEquationSpec.pre6 enc Try.prog Try.f5 Rows.patchEquationRow.domain false) (Rows.patchEquationSpec.post enc Try.prog Try.f5 false true false false) := by
  refine returnsInHanded_of_change_sized (C := Try.checked) own started (by kernel_rfl) Try.func5
    (ChangeSpec.witness6 (enc := enc) (C := Try.checked) false ⟨#[], #[(.agg #[(.slice none 0 0), (.slice none 0 0), (.int .i64 0)]), (.slice none 0 0)], []⟩ 8 (by kernel_rfl) (by kernel_rfl) (by kernel_rfl) (by kernel_rfl)) ?_
  intro W base args ds gs before hval0 hW hcnd hsz0 _
  have hsz : (DataW.weightsEach Try.prog (Try.f5.params.toList ++ Rows.patchEquationSpec.plain.varTypes Try.prog) (ds ++ gs)).all (· ≤ reachBytes) = true := hsz0
  have hval : ∀ (j : Nat) t v, Try.f5.params[j]? = some t → args[j]? = some v → Value.okWide Try.prog W .any base t v := hval0
  have hW' := hW
  obtain ⟨p, q, hA0, hV, rfl, hfz, hnd⟩ := hW
  have hA : DataW.TrodAll enc Try.prog W 0 (fun _ => true) true Try.f5.params.toList args.toList ds p := hA0
  rw [Try.params5] at hA hval hsz
  obtain ⟨v0, vs0, d0, ds0, p0, q0, hargs, rfl, rfl, h0, r0⟩ := trodAll_cons hA
  obtain ⟨v1, vs1, d1, ds1, p1, q1, rfl, rfl, rfl, h1, r1⟩ := trodAll_cons r0
  obtain ⟨rfl, rfl, rfl⟩ := trodAll_nil r1
  obtain rfl : args = #[v0, v1] := by cases args; simp_all
  obtain ⟨rfl, rfl⟩ := trodVars_none hV
  obtain ⟨cs0, rfl, sz0⟩ := okWide_struct Try.underlying25 (hval 0 25 v0 rfl rfl)
  have k0 := h0
  have lt0 : ∀ x ∈ p0, x.block < W.heap.size := by obtain ⟨m, hm⟩ := k0; exact DataW.trod_lt m _ _ _ hm
  obtain ⟨x0, hk0, w0⟩ := Opn.opn_trod opn_S25 hsz (j := 0) (t := 25) rfl rfl h0
  obtain ⟨A0_0, c0_0, A0_1, c0_1, e0, hc0_0, hr0_0, hc0_1, hr0_1⟩ := k25_open hk0
  obtain rfl : cs0 = #[.slice A0_0 x0.f0.length c0_0, .slice A0_1 x0.f1.length c0_1, .int .i64 x0.f2] := by apply Array.ext'; exact e0
  obtain ⟨a1, len1, cap1, rfl⟩ := okWide_slice Try.underlying26 (hval 1 26 v1 rfl rfl)
  have k1 := h1
  have lt1 : ∀ x ∈ p1, x.block < W.heap.size := by obtain ⟨m, hm⟩ := k1; exact DataW.trod_lt m _ _ _ hm
  obtain ⟨x1, hk1, w1⟩ := Opn.opn_trod (Opn.opn_slice (B := 8) Try.underlying26 (by kernel_rfl) (by kernel_rfl) (opn_i64 Try.underlying3)) hsz (j := 1) (t := 26) rfl rfl h1
  obtain ⟨A1, c1, e1, hc1, hr1⟩ := hk1
  simp only [Value.cells, List.cons.injEq, and_true, Value.slice.injEq] at e1
  obtain ⟨rfl, rfl, rfl⟩ := e1
  clear hA0 hval0 hsz0 hsz
  obtain ⟨k, hp⟩ := Pure.PatchEquation x0 x1 w0 w1
  refine (splicelaw13_PatchEquation.calls k _ _ x0.f0 _ _ x0.f1 x0.f2 _ _ x1 true W hr0_0 hc0_0 hr0_1 hc0_1 hr1 hc1 hp).mono ?_
  rintro e W' ⟨rfl, hd⟩
  have bel : Below W.heap.size W W' := hd
  exact ⟨_, rfl, _, _, _, [], _, [], hW', trodAll_mk1 (shut_bool Try.underlying4 _), (trodAll_cons_mk (Below.trod laidOut (by kernel_rfl) (of_decide_eq_true (by kernel_rfl)) k0 bel lt0) (trodAll_cons_mk (Below.trod laidOut (by kernel_rfl) (of_decide_eq_true (by kernel_rfl)) k1 bel lt1) trodAll_mk0)), rfl, bel.frame _, fun h => by cases h⟩
theorem over : Rows.patchEquationRow.holds Try.pinned (OpenSpec.ofChange Rows.patchEquationSpec) :=
  OpenClaim.holds_of_wide 5 Try.f5 rfl rfl rfl rfl rfl rfl rfl ⟨rfl, rfl, rfl, rfl, rfl⟩ rfl rfl rfl rfl rfl (by kernel_rfl) Try.func5 (by kernel_rfl)
    (of_decide_eq_true (by kernel_rfl)) (by unfold Func.isWrapper; first | (rw [if_pos (by decide +kernel)]; kernel_rfl) | (rw [if_neg (by decide +kernel)]; exact ⟨rfl, rfl⟩))
    (fun os started H enc _ => lifted os started H enc)
theorem proved : Rows.PatchEquationSaid := over
#print axioms proved
end Go.Proofs.Ytdnfofhfllnhiaa.patchEquation
namespace Go.Proofs.Ytdnfofhfllnhiaa
theorem patchEquation_holds : Rows.PatchEquationSaid := patchEquation.proved
end Go.Proofs.Ytdnfofhfllnhiaa
end