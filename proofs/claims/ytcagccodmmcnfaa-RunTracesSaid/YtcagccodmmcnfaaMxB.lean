/- Several texts in one, written by mergeall.py. Own work. -/
import Derived.Test.YtcagccodmmcnfaaOpn
import Derived.Test.YtcagccodmmcnfaaMxA
import Derived.StillTailTactics
import Derived.Test.YtcagccodmmcnfaaQ53
import Derived.Deep.QuietTactic
import Derived.BigQuiet
section
/- A machine's state as its cells, read. Own work; a template. -/
namespace Go.Proofs.Ytcagccodmmcnfaa.Cpu
open Go.RowKit Go.Proofs.YtcagccodmmcnfaaW.PrintWords Go.Proofs.YtcagccodmmcnfaaW.PrintLast Go.Proofs.YtcagccodmmcnfaaW.PrintMore Go.Proofs.Ytcagccodmmcnfaa.Hp
set_option linter.unusedVariables false
set_option linter.unusedSimpArgs false
/-- A slice's words. -/
structure Sl where
  a : Option Addr
  n : Nat
  c : Nat
/-- A state's words. -/
structure SV where
  at_ : Int
  R : List Int
  back : Sl
  wr : Int
  byt : Sl
  inp : Sl
  out : Sl
  en : Bool
  code : Int
  flt : Int
def SV.c (s : SV) : Array Value := #[.int .i64 s.at_, .int .u32 (rd s.R 0), .int .u32 (rd s.R 1), .int .u32 (rd s.R 2), .int .u32 (rd s.R 3), .int .u32 (rd s.R 4), .int .u32 (rd s.R 5), .int .u32 (rd s.R 6), .int .u32 (rd s.R 7), .int .u32 (rd s.R 8), .int .u32 (rd s.R 9), .int .u32 (rd s.R 10), .int .u32 (rd s.R 11), .int .u32 (rd s.R 12), .int .u32 (rd s.R 13), .int .u32 (rd s.R 14), .int .u32 (rd s.R 15), .slice s.back.a s.back.n s.back.c, .int .i64 s.wr, .slice s.byt.a s.byt.n s.byt.c, .slice s.inp.a s.inp.n s.inp.c, .slice s.out.a s.out.n s.out.c, .bool s.en, .int .u32 s.code, .int .i64 s.flt]
theorem sv_reg (s : SV) (j : Int) (h0 : 0 ≤ j) (h1 : j < 16) : s.c[1 + j.toNat]? = some (.int .u32 (rd s.R j)) := by
  obtain ⟨n, rfl⟩ : ∃ n : Nat, j = n := ⟨j.toNat, by omega⟩
  have hn : n < 16 := by omega
  simp only [Int.toNat_natCast]
  match n, hn with
  | 0, _ | 1, _ | 2, _ | 3, _ | 4, _ | 5, _ | 6, _ | 7, _ | 8, _ | 9, _ | 10, _ | 11, _ | 12, _ | 13, _ | 14, _ | 15, _ => rfl
theorem sv_setreg (s : SV) (j : Int) (v : Int) (h0 : 0 ≤ j) (h1 : j < 16) (hR : s.R.length = 16) : putSeg s.c (1 + j.toNat) (Value.int .u32 v).cells.toList = SV.c { s with R := s.R.set j.toNat v } := by
  obtain ⟨a, R, s⟩ := s
  simp only at hR
  match R, hR with
  | [r0, r1, r2, r3, r4, r5, r6, r7, r8, r9, r10, r11, r12, r13, r14, r15], _ =>
    obtain ⟨n, rfl⟩ : ∃ n : Nat, j = n := ⟨j.toNat, by omega⟩
    have hn : n < 16 := by omega
    simp only [Int.toNat_natCast]
    match n, hn with
    | 0, _ | 1, _ | 2, _ | 3, _ | 4, _ | 5, _ | 6, _ | 7, _ | 8, _ | 9, _ | 10, _ | 11, _ | 12, _ | 13, _ | 14, _ | 15, _ => rfl
theorem sv_at (s : SV) (v : Int) : putSeg s.c 0 (Value.int .i64 v).cells.toList = SV.c { s with at_ := v } := rfl
theorem sv_back (s : SV) (b : Option Addr) (n c : Nat) : putSeg s.c 17 (Value.slice b n c).cells.toList = SV.c { s with back := ⟨b, n, c⟩ } := rfl
theorem sv_mem (s : SV) (m : Int) (b : Option Addr) (n c : Nat) : putSeg s.c 18 (Value.agg #[.int .i64 m, .slice b n c]).cells.toList = SV.c { s with wr := m, byt := ⟨b, n, c⟩ } := rfl
theorem sv_inp (s : SV) (b : Option Addr) (n c : Nat) : putSeg s.c 20 (Value.slice b n c).cells.toList = SV.c { s with inp := ⟨b, n, c⟩ } := rfl
theorem sv_out (s : SV) (b : Option Addr) (n c : Nat) : putSeg s.c 21 (Value.slice b n c).cells.toList = SV.c { s with out := ⟨b, n, c⟩ } := rfl
theorem sv_en (s : SV) (b : Bool) : putSeg s.c 22 (Value.bool b).cells.toList = SV.c { s with en := b } := rfl
theorem sv_code (s : SV) (v : Int) : putSeg s.c 23 (Value.int .u32 v).cells.toList = SV.c { s with code := v } := rfl
theorem sv_flt (s : SV) (v : Int) : putSeg s.c 24 (Value.int .i64 v).cells.toList = SV.c { s with flt := v } := rfl
theorem sw_at (s : SV) (v : Int) : s.c.setIfInBounds 0 (.int .i64 v) = SV.c { s with at_ := v } := rfl
theorem sw_back (s : SV) (b : Option Addr) (n c : Nat) : s.c.setIfInBounds 17 (.slice b n c) = SV.c { s with back := ⟨b, n, c⟩ } := rfl
theorem sw_out (s : SV) (b : Option Addr) (n c : Nat) : s.c.setIfInBounds 21 (.slice b n c) = SV.c { s with out := ⟨b, n, c⟩ } := rfl
theorem sv_all (s : SV) {cs : Array Value} (h : cs.size = 25) : putSeg cs 0 (Value.agg s.c).cells.toList = s.c := by
  unfold putSeg
  rw [List.drop_of_length_le (by rw [Array.length_toList, h]; exact Nat.le_refl _)]
  rfl
theorem g_at (s : SV) : s.c[0]? = some (.int .i64 s.at_) := rfl
theorem g_back (s : SV) : s.c[17]? = some (.slice s.back.a s.back.n s.back.c) := rfl
theorem g_wr (s : SV) : s.c[18]? = some (.int .i64 s.wr) := rfl
theorem g_byt (s : SV) : s.c[19]? = some (.slice s.byt.a s.byt.n s.byt.c) := rfl
theorem g_inp (s : SV) : s.c[20]? = some (.slice s.inp.a s.inp.n s.inp.c) := rfl
theorem g_out (s : SV) : s.c[21]? = some (.slice s.out.a s.out.n s.out.c) := rfl
theorem g_en (s : SV) : s.c[22]? = some (.bool s.en) := rfl
theorem g_code (s : SV) : s.c[23]? = some (.int .u32 s.code) := rfl
theorem g_flt (s : SV) : s.c[24]? = some (.int .i64 s.flt) := rfl
theorem sv_memx (s : SV) : s.c.extract 18 (18 + 2) = #[.int .i64 s.wr, .slice s.byt.a s.byt.n s.byt.c] := by
  simp [SV.c]
attribute [local go_sem] add_any
set_option maxHeartbeats 2000000 in
set_option maxRecDepth 100000 in
theorem fault_c (s : SV) (why : Int) (w : World) : Calls Try.prog 44 #[.agg s.c, .int .i64 why] w fun e w' => e = .returned (.agg (SV.c { s with en := true, flt := why })) ∧ Below w.heap.size w w' := by
  have H := Hp.nil w
  go_enter Try.func44, Try.ntmps44
  go_wp2_with (first | (refine hp_box H rfl rfl rfl ?_; intro g_ W_ H_; clear H; have H := H_; clear H_) | (refine hp_alloc H rfl rfl (fun w_ => by go_simp; rfl) ?_; intro g_ W_ H_; clear H; have H := H_; clear H_) | (first | (refine hp_whole H rfl (ty := 37) rfl rfl (by repeat (first | exact .head _ | refine .tail _ ?_)) (by kernel_rfl) (by kernel_rfl) ?_)) | ((first | (refine hp_store0 H rfl rfl rfl rfl rfl (by kernel_rfl) (by first | rfl | exact fit_.out) (by rfl) (by first | exact sv_en _ _ | exact sv_flt _ _ | exact sv_all _ rfl) ?_) | (refine hp_store1 H rfl rfl rfl rfl rfl (by kernel_rfl) (by first | rfl | exact fit_.out) (by rfl) (by first | exact sv_en _ _ | exact sv_flt _ _ | exact sv_all _ rfl) ?_)); intro W_ H_; clear H; have H := H_; clear H_))
  exact bodyPost_ret (results_cell_row rfl _ _ _ 37 _ (0, 0) _ rfl (H.heap (.head _)) Try.underlying37 rfl (by kernel_rfl)) rfl ⟨rfl, H.below⟩
def SV.put (s : SV) (r v : Int) : SV := { s with R := if 0 < r then s.R.set r.toNat v else s.R, at_ := wrap64 (s.at_ + 1) }
set_option maxHeartbeats 2000000 in
set_option maxRecDepth 100000 in
theorem put_c (s : SV) (r v : Int) (w : World) (h0 : 0 ≤ r) (h1 : r < 16) (hR : Aside0 (s.R.length = 16)) : Calls Try.prog 47 #[.agg s.c, .int .i64 r, .int .u32 v] w fun e w' => e = .returned (.agg (s.put r v).c) ∧ Below w.heap.size w w' := by
  have H := Hp.nil w
  by_cases h : 0 < r
  · have hr := Aside0.mk (sv_setreg s r v h0 h1 hR.out)
    have fit_ : Aside0 (Nat.ble (1 + r.toNat + 1) 25 = true) := ⟨Nat.ble_eq_true_of_le (by omega)⟩
    have e : Aside0 (s.put r v = { s with R := s.R.set r.toNat v, at_ := wrap64 (s.at_ + 1) }) := ⟨by unfold SV.put; rw [if_pos h]⟩
    go_enter Try.func47, Try.ntmps47
    go_wp2_with (first | (refine hp_box H rfl rfl rfl ?_; intro g_ W_ H_; clear H; have H := H_; clear H_) | (refine hp_alloc H rfl rfl (fun w_ => by go_simp; rfl) ?_; intro g_ W_ H_; clear H; have H := H_; clear H_) | (first | (refine hp_whole H rfl (ty := 37) rfl rfl (by repeat (first | exact .head _ | refine .tail _ ?_)) (by kernel_rfl) (by kernel_rfl) ?_)) | (refine hp_load H rfl rfl rfl (by repeat (first | exact .head _ | refine .tail _ ?_)) (by kernel_rfl) (by first | exact g_at _) ?_) | ((first | (refine hp_store0 H rfl rfl rfl rfl rfl (by kernel_rfl) (by first | rfl | exact fit_.out) (by rfl) (by first | exact hr.out | exact sv_at _ _ | exact sv_all _ rfl) ?_) | (refine hp_store1 H rfl rfl rfl rfl rfl (by kernel_rfl) (by first | rfl | exact fit_.out) (by rfl) (by first | exact hr.out | exact sv_at _ _ | exact sv_all _ rfl) ?_)); intro W_ H_; clear H; have H := H_; clear H_))
    rw [e.out]
    exact bodyPost_ret (results_cell_row rfl _ _ _ 37 _ (0, 0) _ rfl (H.heap (.head _)) Try.underlying37 rfl (by kernel_rfl)) rfl ⟨rfl, H.below⟩
  · have e : Aside0 (s.put r v = { s with at_ := wrap64 (s.at_ + 1) }) := ⟨by unfold SV.put; rw [if_neg h]⟩
    go_enter Try.func47, Try.ntmps47
    go_wp2_with (first | (refine hp_box H rfl rfl rfl ?_; intro g_ W_ H_; clear H; have H := H_; clear H_) | (refine hp_alloc H rfl rfl (fun w_ => by go_simp; rfl) ?_; intro g_ W_ H_; clear H; have H := H_; clear H_) | (first | (refine hp_whole H rfl (ty := 37) rfl rfl (by repeat (first | exact .head _ | refine .tail _ ?_)) (by kernel_rfl) (by kernel_rfl) ?_)) | (refine hp_load H rfl rfl rfl (by repeat (first | exact .head _ | refine .tail _ ?_)) (by kernel_rfl) (by first | exact g_at _) ?_) | ((first | (refine hp_store0 H rfl rfl rfl rfl rfl (by kernel_rfl) (by first | rfl | exact fit_.out) (by rfl) (by first | exact sv_at _ _ | exact sv_all _ rfl) ?_) | (refine hp_store1 H rfl rfl rfl rfl rfl (by kernel_rfl) (by first | rfl | exact fit_.out) (by rfl) (by first | exact sv_at _ _ | exact sv_all _ rfl) ?_)); intro W_ H_; clear H; have H := H_; clear H_))
    rw [e.out]
    exact bodyPost_ret (results_cell_row rfl _ _ _ 37 _ (0, 0) _ rfl (H.heap (.head _)) Try.underlying37 rfl (by kernel_rfl)) rfl ⟨rfl, H.below⟩
end Go.Proofs.Ytcagccodmmcnfaa.Cpu
end
section
/- flow.Kind, flow.Flip, slices.Clip: contracts by hand. Own work; a template. -/
namespace Go.Proofs.Ytcagccodmmcnfaa.Cpu
open Go.RowKit Go.Proofs.YtcagccodmmcnfaaW.PrintWords Go.Proofs.YtcagccodmmcnfaaW.PrintLast Go.Proofs.YtcagccodmmcnfaaW.PrintMore Go.Proofs.Ytcagccodmmcnfaa.Hp
set_option linter.unusedVariables false
set_option linter.unusedSimpArgs false
/-- An instruction's words. -/
structure IV where
  op : Int
  a : Int
  b : Int
  c_ : Int
  imm : Int
def IV.c (i : IV) : Array Value := #[.int .i64 i.op, .int .i64 i.a, .int .i64 i.b, .int .i64 i.c_, .int .i64 i.imm]
theorem i_op (i : IV) : i.c[0]? = some (.int .i64 i.op) := rfl
theorem i_a (i : IV) : i.c[1]? = some (.int .i64 i.a) := rfl
theorem i_b (i : IV) : i.c[2]? = some (.int .i64 i.b) := rfl
theorem i_imm (i : IV) : i.c[4]? = some (.int .i64 i.imm) := rfl
def kindF (op : Int) : Int :=
  if op = 11 then 1 else if op = 12 then 1 else if op = 13 then 1 else if op = 14 then 1 else if op = 22 then 1 else if op = 23 then 1 else
  if op = 15 then 2 else if op = 16 then 2 else if op = 17 then 2 else if op = 18 then 2 else if op = 19 then 3 else if op = 20 then 4 else if op = 0 then 5 else if op = 21 then 5 else if op = 25 then 5 else 0
def flipF (op : Int) : Int := if op = 15 then 16 else if op = 17 then 18 else if op = 16 then 15 else if op = 18 then 17 else -1
def KindIs (op : Int) (w : World) (e : Ending) (w' : World) : Prop := e = .returned (.int .i64 (kindF op)) ∧ Below w.heap.size w w'
theorem kind_is {op k : Int} {w w' : World} (h : kindF op = k) (hb : Below w.heap.size w w') : KindIs op w (.returned (.int .i64 k)) w' := ⟨by rw [h], hb⟩
set_option maxHeartbeats 8000000 in
theorem kind_c (i : IV) (w : World) : Calls Try.prog 46 #[.agg i.c] w (KindIs i.op w) := by
  obtain ⟨op, a, b, c_, imm⟩ := i
  have H := Hp.nil w
  by_cases h : 0 ≤ op ∧ op < 26
  · obtain ⟨n, rfl⟩ : ∃ n : Nat, op = n := ⟨op.toNat, by omega⟩
    have hn : n < 26 := by omega
    clear h
    match n, hn with
    | n + 26, hn => exact absurd hn (by omega)
    | 0, _ | 1, _ | 2, _ | 3, _ | 4, _ | 5, _ | 6, _ | 7, _ | 8, _ | 9, _ | 10, _ | 11, _ | 12, _ | 13, _ | 14, _ | 15, _ | 16, _ | 17, _ | 18, _ | 19, _ | 20, _ | 21, _ | 22, _ | 23, _ | 24, _ | 25, _ =>
      go_enter Try.func46, Try.ntmps46
      go_wp2_with (first | (refine hp_box H rfl rfl rfl ?_; intro g_ W_ H_; clear H; have H := H_; clear H_) | (refine hp_load H rfl rfl rfl (by repeat (first | exact .head _ | refine .tail _ ?_)) (by kernel_rfl) (by first | exact i_op _) ?_))
      go_ret
      exact kind_is rfl H.below
  · have h11 : ¬ op = 11 := by omega
    have h12 : ¬ op = 12 := by omega
    have h13 : ¬ op = 13 := by omega
    have h14 : ¬ op = 14 := by omega
    have h22 : ¬ op = 22 := by omega
    have h23 : ¬ op = 23 := by omega
    have h15 : ¬ op = 15 := by omega
    have h16 : ¬ op = 16 := by omega
    have h17 : ¬ op = 17 := by omega
    have h18 : ¬ op = 18 := by omega
    have h19 : ¬ op = 19 := by omega
    have h20 : ¬ op = 20 := by omega
    have h0 : ¬ op = 0 := by omega
    have h21 : ¬ op = 21 := by omega
    have h25 : ¬ op = 25 := by omega
    have hk := Aside0.mk (show kindF op = 0 by simp [kindF, h11, h12, h13, h14, h22, h23, h15, h16, h17, h18, h19, h20, h0, h21, h25])
    clear h
    go_enter Try.func46, Try.ntmps46
    go_wp2_with (first | (refine hp_box H rfl rfl rfl ?_; intro g_ W_ H_; clear H; have H := H_; clear H_) | (refine hp_load H rfl rfl rfl (by repeat (first | exact .head _ | refine .tail _ ?_)) (by kernel_rfl) (by first | exact i_op _) ?_))
    go_ret
    exact kind_is hk.out H.below
def FlipIs (op : Int) (w : World) (e : Ending) (w' : World) : Prop := e = .returned (.int .i64 (flipF op)) ∧ Below w.heap.size w w'
theorem flip_is {op k : Int} {w w' : World} (h : flipF op = k) (hb : Below w.heap.size w w') : FlipIs op w (.returned (.int .i64 k)) w' := ⟨by rw [h], hb⟩
set_option maxHeartbeats 4000000 in
theorem flip_c (op : Int) (w : World) : Calls Try.prog 64 #[.int .i64 op] w (FlipIs op w) := by
  by_cases h1 : op = 15
  · subst h1
    go_enter Try.func64, Try.ntmps64
    go_wp2
    go_ret
    exact flip_is rfl (Below.refl _ _)
  by_cases h2 : op = 17
  · subst h2
    go_enter Try.func64, Try.ntmps64
    go_wp2
    go_ret
    exact flip_is rfl (Below.refl _ _)
  by_cases h3 : op = 16
  · subst h3
    go_enter Try.func64, Try.ntmps64
    go_wp2
    go_ret
    exact flip_is rfl (Below.refl _ _)
  by_cases h4 : op = 18
  · subst h4
    go_enter Try.func64, Try.ntmps64
    go_wp2
    go_ret
    exact flip_is rfl (Below.refl _ _)
  go_enter Try.func64, Try.ntmps64
  go_wp2
  go_ret
  exact flip_is (by simp [flipF, h1, h2, h3, h4]) (Below.refl _ _)
theorem flip_k (op k : Int) (h : flipF op = k) (w : World) : Calls Try.prog 64 #[.int .i64 op] w fun e w' => e = .returned (.int .i64 k) ∧ Below w.heap.size w w' :=
  (flip_c op w).mono fun _ _ hq => ⟨by rw [← h]; exact hq.1, hq.2⟩
theorem kind_k (i : IV) (k : Int) (h : kindF i.op = k) (w : World) : Calls Try.prog 46 #[.agg i.c] w fun e w' => e = .returned (.int .i64 k) ∧ Below w.heap.size w w' :=
  (kind_c i w).mono fun _ _ hq => ⟨by rw [← h]; exact hq.1, hq.2⟩
theorem clipI_c (A : Option Addr) (n c : Nat) (w : World) (h : n ≤ c) (hm : c ≤ 9223372036854775807) : Calls Try.prog 63 #[.slice A n c] w fun e w' => e = .returned (.slice A n n) ∧ Below w.heap.size w w' := by
  go_enter Try.func63, Try.ntmps63
  go_wp2
  go_ret
  exact ⟨rfl, Below.refl _ _⟩
end Go.Proofs.Ytcagccodmmcnfaa.Cpu
end
section
/- A machine's state: what ends, what leads elsewhere. Own work; a template. -/
namespace Go.Proofs.Ytcagccodmmcnfaa.Cpu
open Go.RowKit Go.Proofs.YtcagccodmmcnfaaW.PrintWords Go.Proofs.YtcagccodmmcnfaaW.PrintLast Go.Proofs.YtcagccodmmcnfaaW.PrintMore Go.Proofs.Ytcagccodmmcnfaa.Hp
set_option linter.unusedVariables false
set_option linter.unusedSimpArgs false
attribute [local go_sem] add_any
def SV.ends (s : SV) (i : IV) (l : List Int) : SV :=
  if i.op = 0 then { s with code := rd s.R i.a, en := true, flt := 0 } else if i.op = 25 then { s with en := true, flt := 1 } else if s.back.n = 0 then { s with en := true, flt := 5 } else { s with at_ := rd l ((s.back.n : Int) - 1), back := ⟨s.back.a, s.back.n - 1, s.back.c⟩ }
set_option maxHeartbeats 4000000 in
set_option maxRecDepth 100000 in
theorem ends_c (s : SV) (i : IV) (l : List Int) (w : World) (h0 : 0 ≤ i.a) (h1 : i.a < 16) (hl : Aside0 (s.back.n = l.length)) (hc : s.back.n ≤ s.back.c) (hm : s.back.c ≤ 9223372036854775807) (hr : Aside0 (Kd.C (Kd.int .i64) w s.back.a l.length l)) :
    Calls Try.prog 50 #[.agg s.c, .agg i.c] w fun e w' => e = .returned (.agg (s.ends i l).c) ∧ Below w.heap.size w w' := by
  have H := Hp.nil w
  by_cases ho : i.op = 0
  · have e : Aside0 (s.ends i l = { s with code := rd s.R i.a, en := true, flt := 0 }) := ⟨by unfold SV.ends; rw [if_pos ho]⟩
    have hreg := Aside0.mk (sv_reg s i.a h0 h1)
    go_enter Try.func50, Try.ntmps50
    go_wp2_with (first | (refine hp_box H rfl rfl rfl ?_; intro g_ W_ H_; clear H; have H := H_; clear H_) | (refine hp_alloc H rfl rfl (fun w_ => by go_simp; rfl) ?_; intro g_ W_ H_; clear H; have H := H_; clear H_) | (first | (refine hp_whole H rfl (ty := 37) rfl rfl (by repeat (first | exact .head _ | refine .tail _ ?_)) (by kernel_rfl) (by kernel_rfl) ?_)) | (refine hp_load H rfl rfl rfl (by repeat (first | exact .head _ | refine .tail _ ?_)) (by kernel_rfl) (by first | exact i_op _ | exact i_a _ | exact hreg.out) ?_) | (refine hp_goes H rfl (f := 44) rfl Try.func44 (by kernel_rfl) rfl (fault_c _ _ _) (by (try simp only [List.map_toArray, List.map_cons, List.map_nil]); first | done | rfl) ?_; rintro e_ W_ ⟨rfl, hb_⟩; refine ⟨_, rfl, hb_, fun H_ => ?_⟩; clear H; have H := H_; clear H_) | ((first | (refine hp_store0 H rfl rfl rfl rfl rfl (by kernel_rfl) (by first | rfl | exact fit_.out) (by rfl) (by first | exact sv_code _ _ | exact sv_all _ rfl) ?_) | (refine hp_store1 H rfl rfl rfl rfl rfl (by kernel_rfl) (by first | rfl | exact fit_.out) (by rfl) (by first | exact sv_code _ _ | exact sv_all _ rfl) ?_) | (refine hp_store2 H rfl rfl rfl rfl rfl (by kernel_rfl) (by first | rfl | exact fit_.out) (by rfl) (by first | exact sv_code _ _ | exact sv_all _ rfl) ?_)); intro W_ H_; clear H; have H := H_; clear H_))
    rw [e.out]
    exact bodyPost_ret (results_cell_row rfl _ _ _ 37 _ (0, 0) _ rfl (H.heap (.head _)) Try.underlying37 rfl (by kernel_rfl)) rfl ⟨rfl, H.below⟩
  · by_cases ho2 : i.op = 25
    · have e : Aside0 (s.ends i l = { s with en := true, flt := 1 }) := ⟨by unfold SV.ends; rw [if_neg ho, if_pos ho2]⟩
      go_enter Try.func50, Try.ntmps50
      go_wp2_with (first | (refine hp_box H rfl rfl rfl ?_; intro g_ W_ H_; clear H; have H := H_; clear H_) | (refine hp_alloc H rfl rfl (fun w_ => by go_simp; rfl) ?_; intro g_ W_ H_; clear H; have H := H_; clear H_) | (first | (refine hp_whole H rfl (ty := 37) rfl rfl (by repeat (first | exact .head _ | refine .tail _ ?_)) (by kernel_rfl) (by kernel_rfl) ?_)) | (refine hp_load H rfl rfl rfl (by repeat (first | exact .head _ | refine .tail _ ?_)) (by kernel_rfl) (by first | exact i_op _ | exact i_a _) ?_) | (refine hp_goes H rfl (f := 44) rfl Try.func44 (by kernel_rfl) rfl (fault_c _ _ _) (by (try simp only [List.map_toArray, List.map_cons, List.map_nil]); first | done | rfl) ?_; rintro e_ W_ ⟨rfl, hb_⟩; refine ⟨_, rfl, hb_, fun H_ => ?_⟩; clear H; have H := H_; clear H_) | ((first | (refine hp_store0 H rfl rfl rfl rfl rfl (by kernel_rfl) (by first | rfl | exact fit_.out) (by rfl) (by first | exact sv_code _ _ | exact sv_all _ rfl) ?_) | (refine hp_store1 H rfl rfl rfl rfl rfl (by kernel_rfl) (by first | rfl | exact fit_.out) (by rfl) (by first | exact sv_code _ _ | exact sv_all _ rfl) ?_) | (refine hp_store2 H rfl rfl rfl rfl rfl (by kernel_rfl) (by first | rfl | exact fit_.out) (by rfl) (by first | exact sv_code _ _ | exact sv_all _ rfl) ?_)); intro W_ H_; clear H; have H := H_; clear H_))
      rw [e.out]
      exact bodyPost_ret (results_cell_row rfl _ _ _ 37 _ (0, 0) _ rfl (H.heap (.head _)) Try.underlying37 rfl (by kernel_rfl)) rfl ⟨rfl, H.below⟩
    · by_cases hn : s.back.n = 0
      · have e : Aside0 (s.ends i l = { s with en := true, flt := 5 }) := ⟨by unfold SV.ends; rw [if_neg ho, if_neg ho2, if_pos hn]⟩
        go_enter Try.func50, Try.ntmps50
        go_wp2_with (first | (refine hp_box H rfl rfl rfl ?_; intro g_ W_ H_; clear H; have H := H_; clear H_) | (refine hp_alloc H rfl rfl (fun w_ => by go_simp; rfl) ?_; intro g_ W_ H_; clear H; have H := H_; clear H_) | (first | (refine hp_whole H rfl (ty := 37) rfl rfl (by repeat (first | exact .head _ | refine .tail _ ?_)) (by kernel_rfl) (by kernel_rfl) ?_)) | (refine hp_load H rfl rfl rfl (by repeat (first | exact .head _ | refine .tail _ ?_)) (by kernel_rfl) (by first | exact i_op _ | exact i_a _ | exact g_back _) ?_) | (refine hp_goes H rfl (f := 44) rfl Try.func44 (by kernel_rfl) rfl (fault_c _ _ _) (by (try simp only [List.map_toArray, List.map_cons, List.map_nil]); first | done | rfl) ?_; rintro e_ W_ ⟨rfl, hb_⟩; refine ⟨_, rfl, hb_, fun H_ => ?_⟩; clear H; have H := H_; clear H_) | ((first | (refine hp_store0 H rfl rfl rfl rfl rfl (by kernel_rfl) (by first | rfl | exact fit_.out) (by rfl) (by first | exact sv_code _ _ | exact sv_all _ rfl) ?_) | (refine hp_store1 H rfl rfl rfl rfl rfl (by kernel_rfl) (by first | rfl | exact fit_.out) (by rfl) (by first | exact sv_code _ _ | exact sv_all _ rfl) ?_) | (refine hp_store2 H rfl rfl rfl rfl rfl (by kernel_rfl) (by first | rfl | exact fit_.out) (by rfl) (by first | exact sv_code _ _ | exact sv_all _ rfl) ?_)); intro W_ H_; clear H; have H := H_; clear H_))
        rw [e.out]
        exact bodyPost_ret (results_cell_row rfl _ _ _ 37 _ (0, 0) _ rfl (H.heap (.head _)) Try.underlying37 rfl (by kernel_rfl)) rfl ⟨rfl, H.below⟩
      · obtain ⟨at_, R, ⟨A, n, c⟩, wr, byt, inp, out, en, code, flt⟩ := s
        obtain ⟨s, hs⟩ : ∃ s : SV, s = ⟨at_, R, ⟨A, n, c⟩, wr, byt, inp, out, en, code, flt⟩ := ⟨_, rfl⟩
        simp only at hn hc hm
        have hl' : n = l.length := hl.out
        have hl := Aside0.mk hl'
        have e : Aside0 (SV.ends ⟨at_, R, ⟨A, n, c⟩, wr, byt, inp, out, en, code, flt⟩ i l = ⟨rd l ((n : Int) - 1), R, ⟨A, n - 1, c⟩, wr, byt, inp, out, en, code, flt⟩) := ⟨by unfold SV.ends; rw [if_neg ho, if_neg ho2, if_neg hn]⟩
        obtain ⟨ad, ea, _⟩ := Kd.at_int hr.out ((n : Int) - 1) (by omega) (by omega)
        simp only at ea
        subst ea
        have h1n : 1 ≤ n := by omega
        clear hl' hs s
        go_enter Try.func50, Try.ntmps50
        go_wp2_with (first | (refine hp_box H rfl rfl rfl ?_; intro g_ W_ H_; clear H; have H := H_; clear H_) | (refine hp_alloc H rfl rfl (fun w_ => by go_simp; rfl) ?_; intro g_ W_ H_; clear H; have H := H_; clear H_) | (refine hp_load H rfl rfl rfl (by repeat (first | exact .head _ | refine .tail _ ?_)) (by kernel_rfl) (by first | exact i_op _ | exact i_a _ | exact g_back _) ?_))
        have H2 := H.drew
        have k0 := H.cell (.tail _ (.tail _ (.head _))) 0 (g_at _)
        have k17 := H.cell (.tail _ (.tail _ (.head _))) 17 (g_back _)
        have f0 := H.frozen (.tail _ (.tail _ (.head _))) 0
        have f17 := H.frozen (.tail _ (.tail _ (.head _))) 17
        obtain ⟨ad', ea, hx⟩ := Kd.at_int (Kd.C_below hr.out H.below) ((n : Int) - 1) (by omega) (by have := hl.out; omega)
        rw [show ((n : Int) - 1).toNat = n - 1 by omega] at hx
        obtain rfl : ad = ad' := Option.some.inj ea
        clear ea
        have b1 : (0 ≤ (n : Int) - 1) = True := eq_true (by omega)
        have b2 : ((n : Int) - 1 < (n : Int)) = True := eq_true (by omega)
        have b3 : ((n : Int) - 1 ≤ (c : Int)) = True := eq_true (by omega)
        have H := Aside0.mk H
        go_region
        have H := ((H.out.set2 0 _ (sw_at _ (rd l ((n : Int) - 1)))).set2 17 _ (sw_back _ (some ad) (n - 1) c)).drew
        clear k0 k17 f0 f17 hx b1 b2 b3 H2
        generalize World.drew _ = W3 at *
        go_wp2_with (first | (first | (refine hp_whole H rfl (ty := 37) rfl rfl (by repeat (first | exact .head _ | refine .tail _ ?_)) (by kernel_rfl) (by kernel_rfl) ?_)) | ((first | (refine hp_store0 H rfl rfl rfl rfl rfl (by kernel_rfl) (by first | rfl | exact fit_.out) (by rfl) (by first | exact sv_all _ rfl) ?_) | (refine hp_store1 H rfl rfl rfl rfl rfl (by kernel_rfl) (by first | rfl | exact fit_.out) (by rfl) (by first | exact sv_all _ rfl) ?_) | (refine hp_store2 H rfl rfl rfl rfl rfl (by kernel_rfl) (by first | rfl | exact fit_.out) (by rfl) (by first | exact sv_all _ rfl) ?_)); intro W_ H_; clear H; have H := H_; clear H_))
        rw [e.out]
        exact bodyPost_ret (results_cell_row rfl _ _ _ 37 _ (0, 0) _ rfl (H.heap (.head _)) Try.underlying37 rfl (by kernel_rfl)) rfl ⟨rfl, H.below⟩
end Go.Proofs.Ytcagccodmmcnfaa.Cpu
end
section
/- A machine's state: what it reads as; what leads elsewhere. Own work; a template. -/
namespace Go.Proofs.Ytcagccodmmcnfaa.Cpu
open Go.RowKit Go.Proofs.YtcagccodmmcnfaaW.PrintWords Go.Proofs.YtcagccodmmcnfaaW.PrintLast Go.Proofs.YtcagccodmmcnfaaW.PrintMore Go.Proofs.Ytcagccodmmcnfaa.Hp Go.Proofs.Ytcagccodmmcnfaa.Q
set_option linter.unusedVariables false
set_option linter.unusedSimpArgs false
attribute [local go_sem] add_any
/-- What a state says. -/
structure St where
  at_ : Int
  R : List Int
  back : List Int
  wr : Int
  byt : List Int
  inp : List Int
  out : List Int
  en : Bool
  code : Int
  flt : Int
structure Rd (w : World) (s : SV) (t : St) : Prop where
  at_ : s.at_ = t.at_
  R : s.R = t.R
  n16 : t.R.length = 16
  back : RdS .i64 w s.back.a s.back.n s.back.c t.back
  wr : s.wr = t.wr
  byt : RdS .u8 w s.byt.a s.byt.n s.byt.c t.byt
  inp : RdS .u8 w s.inp.a s.inp.n s.inp.c t.inp
  out : RdS .u8 w s.out.a s.out.n s.out.c t.out
  en : s.en = t.en
  code : s.code = t.code
  flt : s.flt = t.flt
theorem Rd.below {w w' : World} {s : SV} {t : St} (h : Rd w s t) (hb : Below w.heap.size w w') : Rd w' s t :=
  ⟨h.at_, h.R, h.n16, h.back.below hb, h.wr, h.byt.below hb, h.inp.below hb, h.out.below hb, h.en, h.code, h.flt⟩
def takenF (op a b : Int) : Bool := if op = 15 then a == b else if op = 16 then a != b else if op = 17 then decide (wrap32 a < wrap32 b) else if op = 18 then !decide (wrap32 a < wrap32 b) else false
theorem taken_f (op a b : Int) : alu_Taken.f op a b = some (takenF op a b) := by
  unfold alu_Taken.f takenF alu_less.f
  repeat' split
  all_goals rfl
def St.leads (t : St) (i : IV) : St :=
  { t with back := if i.op = 20 then t.back ++ [wrap64 (t.at_ + 1)] else t.back, at_ := if flipF i.op = -1 ∨ takenF i.op (rd t.R i.a) (rd t.R i.b) = true then wrap64 (wrap64 (t.at_ + 1) + i.imm) else wrap64 (t.at_ + 1) }
section
variable {w0 W W9 : World} {L : List (Nat × Array Value × TypeId)} {g n cap : Nat} {cur : Array Value} {e : TypeId} {k : IntKind} {l : List Int}
theorem rds_heap (hg : W.heap[g]? = some (.cells cur e (0, 0))) (ht : cur.toList.take n = nums k l) (hn : n = l.length) (hc : n ≤ cap) (hmx : cap ≤ 9223372036854775807) : RdS k W (some ⟨g, 0, none⟩) n cap l := by
  refine ⟨hn, hc, hmx, Kd.C_of_reads (enc := Value.int k) (d := (0 : Int)) (h1 := fun _ => rfl) ⟨rfl, by omega, fun _ => ⟨_, rfl, fun j hj => ?_⟩⟩⟩
  rw [add_any, Nat.zero_add]
  refine (blk_cell hg j).trans ?_
  have h : (cur.toList.take n)[j]? = some (.int k (l.getD j 0)) := by
    rw [ht, nums, List.getElem?_map, List.getD_eq_getElem?_getD, List.getElem?_eq_getElem hj]
    rfl
  rw [List.getElem?_take, if_pos (by omega)] at h
  rw [← Array.getElem?_toList]
  exact h
/-- What a call has made, read in whatever world has the same blocks from the call's on. -/
theorem _root_.Go.Proofs.Ytcagccodmmcnfaa.Hp.Hp.rdsF (H : Hp w0 W L) (hW : ∀ b, w0.heap.size ≤ b → b < W.heap.size → W9.heap[b]? = W.heap[b]?) (hm : (g, cur, e) ∈ L) (ht : cur.toList.take n = nums k l) (hn : n = l.length) (hc : n ≤ cap) (hmx : cap ≤ 9223372036854775807) : RdS k W9 (some ⟨g, 0, none⟩) n cap l :=
  rds_heap ((hW g (H.blk _ hm).1 (blk_lt (H.heap hm))).trans (H.heap hm)) ht hn hc hmx
end
/-- A state is handed back: in whatever world that holds what was handed in, and the blocks made since, it reads as T. -/
def StIs (w : World) (s0 : SV) (t0 t : St) (e : Ending) (w' : World) : Prop := ∃ s : SV, e = .returned (.agg s.c) ∧ (∀ W9, (∀ b, w.heap.size ≤ b → b < w'.heap.size → W9.heap[b]? = w'.heap[b]?) → Rd W9 s0 t0 → Rd W9 s t) ∧ Below w.heap.size w w'
set_option maxHeartbeats 8000000 in
set_option maxRecDepth 100000 in
theorem leads_c (s : SV) (t : St) (i : IV) (w : World) (h : Aside0 (Rd w s t)) (h0 : 0 ≤ i.a) (h1 : i.a < 16) (h2 : 0 ≤ i.b) (h3 : i.b < 16) (hb : t.back.length ≤ 1099511627776) :
    Calls Try.prog 51 #[.agg s.c, .agg i.c] w (StIs w s t (t.leads i)) := by
  have H := Hp.nil w
  have hn := h.out.back.1
  have hnc := h.out.back.2.1
  have hcm := h.out.back.2.2.1
  by_cases h20 : i.op = 20
  · have hf : flipF i.op = -1 := by rw [h20]; rfl
    have e : Aside0 (t.leads i = { t with back := t.back ++ [wrap64 (t.at_ + 1)], at_ := wrap64 (wrap64 (t.at_ + 1) + i.imm) }) := ⟨by unfold St.leads; rw [if_pos h20, if_pos (.inl hf)]⟩
    replace hn := Aside0.mk hn
    replace hf := Aside0.mk hf
    go_enter Try.func51, Try.ntmps51
    go_wp2_with (first | (refine hp_box H rfl rfl rfl ?_; intro g_ W_ H_; clear H; have H := H_; clear H_) | (refine hp_alloc H rfl rfl (fun w_ => by go_simp; rfl) ?_; intro g_ W_ H_; clear H; have H := H_; clear H_) | (first | (refine hp_whole H rfl (ty := 37) rfl rfl (by repeat (first | exact .head _ | refine .tail _ ?_)) (by kernel_rfl) (by kernel_rfl) ?_)) | (refine hp_load H rfl rfl rfl (by repeat (first | exact .head _ | refine .tail _ ?_)) (by kernel_rfl) (by first | exact i_op _ | exact i_imm _ | exact g_at _ | exact g_back _) ?_) | (refine hp_goes H rfl (f := 64) rfl Try.func64 (by kernel_rfl) rfl (flip_k _ (-1) hf.out _) (by (try simp only [List.map_toArray, List.map_cons, List.map_nil]); first | done | rfl) ?_; rintro e_ W_ ⟨rfl, hb_⟩; refine ⟨_, rfl, hb_, fun H_ => ?_⟩; clear H; have H := H_; clear H_) | (refine hp_goes H rfl (f := 63) rfl Try.func63 (by kernel_rfl) rfl (clipI_c s.back.a s.back.n s.back.c _ hnc hcm) (by (try simp only [List.map_toArray, List.map_cons, List.map_nil]); first | done | rfl) ?_; rintro e_ W_ ⟨rfl, hb_⟩; refine ⟨_, rfl, hb_, fun H_ => ?_⟩; clear H; have H := H_; clear H_) | (refine hp_lit H rfl rfl (by first | (go_simp; done) | (go_simp; rfl)) ?_; intro g_ W_ H_; clear H; have H := H_; clear H_) | (refine hp_grow H rfl rfl Try.underlying33 8 (by kernel_rfl) rfl (RdS.below h.out.back.clip H.below) rfl (.head _) (by have := hn.out; omega) (by omega) ?_; intro g_ cur_ cap_ W_ ht_ hc_ hm_ H_; clear H; have H := H_; clear H_; replace ht_ := Aside0.mk ht_) | ((first | (refine hp_store0 H rfl rfl rfl rfl rfl (by kernel_rfl) (by first | rfl | exact fit_.out) (by rfl) (by first | exact sv_at _ _ | exact sv_back _ _ _ _ | exact sv_all _ rfl) ?_) | (refine hp_store1 H rfl rfl rfl rfl rfl (by kernel_rfl) (by first | rfl | exact fit_.out) (by rfl) (by first | exact sv_at _ _ | exact sv_back _ _ _ _ | exact sv_all _ rfl) ?_) | (refine hp_store2 H rfl rfl rfl rfl rfl (by kernel_rfl) (by first | rfl | exact fit_.out) (by rfl) (by first | exact sv_at _ _ | exact sv_back _ _ _ _ | exact sv_all _ rfl) ?_) | (refine hp_store3 H rfl rfl rfl rfl rfl (by kernel_rfl) (by first | rfl | exact fit_.out) (by rfl) (by first | exact sv_at _ _ | exact sv_back _ _ _ _ | exact sv_all _ rfl) ?_) | (refine hp_store4 H rfl rfl rfl rfl rfl (by kernel_rfl) (by first | rfl | exact fit_.out) (by rfl) (by first | exact sv_at _ _ | exact sv_back _ _ _ _ | exact sv_all _ rfl) ?_)); intro W_ H_; clear H; have H := H_; clear H_) | (go_quiet (fail); have H := H.drewN nq))
    rw [e.out]
    exact (bodyPost_ret (results_cell_row rfl _ _ _ 37 _ (0, 0) _ rfl (H.heap (by repeat (first | exact .head _ | refine .tail _ ?_))) Try.underlying37 rfl (by kernel_rfl)) rfl ⟨{ s with at_ := wrap64 (wrap64 (s.at_ + 1) + i.imm), back := ⟨some ⟨g_, 0, none⟩, s.back.n + 1, cap_⟩ }, rfl, fun W9_ hW9_ hd => ⟨by simp only [hd.at_], hd.R, hd.n16, by rw [← hd.at_]; exact H.rdsF hW9_ (by repeat (first | exact .head _ | refine .tail _ ?_)) ht_.out (by have := hn.out; simp; omega) hc_ hm_, hd.wr, hd.byt, hd.inp, hd.out, hd.en, hd.code, hd.flt⟩, H.below⟩)
  · clear hn hnc hcm
    by_cases hbr : 15 ≤ i.op ∧ i.op ≤ 18
    · obtain ⟨f, hf, hf0⟩ : ∃ f, flipF i.op = f ∧ 0 ≤ f := ⟨flipF i.op, rfl, by unfold flipF; (repeat' split) <;> omega⟩
      have hf1 : ¬ flipF i.op = -1 := by omega
      have hop : Aside0 (i.op = 15 ∨ i.op = 16 ∨ i.op = 17 ∨ i.op = 18) := ⟨by omega⟩
      replace hf := Aside0.mk hf
      clear hbr
      obtain ⟨tk, htk⟩ : ∃ tk, takenF i.op (rd t.R i.a) (rd t.R i.b) = tk := ⟨_, rfl⟩
      have e : Aside0 (t.leads i = { t with at_ := if tk = true then wrap64 (wrap64 (t.at_ + 1) + i.imm) else wrap64 (t.at_ + 1) }) := ⟨by unfold St.leads; rw [if_neg h20, htk]; simp only [hf1, false_or]⟩
      have ht : Aside0 (alu_Taken.f i.op (rd s.R i.a) (rd s.R i.b) = some tk) := ⟨by rw [h.out.R, taken_f, htk]⟩
      clear htk hf1
      cases tk with
      | true =>
        simp only [if_true] at e
        go_enter Try.func51, Try.ntmps51
        go_wp2_with (first | (refine hp_box H rfl rfl rfl ?_; intro g_ W_ H_; clear H; have H := H_; clear H_) | (refine hp_alloc H rfl rfl (fun w_ => by go_simp; rfl) ?_; intro g_ W_ H_; clear H; have H := H_; clear H_) | (first | (refine hp_whole H rfl (ty := 37) rfl rfl (by repeat (first | exact .head _ | refine .tail _ ?_)) (by kernel_rfl) (by kernel_rfl) ?_)) | (refine hp_load H rfl rfl rfl (by repeat (first | exact .head _ | refine .tail _ ?_)) (by kernel_rfl) (by first | exact i_op _ | exact i_imm _ | exact g_at _) ?_) | (refine hp_goes H rfl (f := 64) rfl Try.func64 (by kernel_rfl) rfl (flip_k _ _ hf.out _) (by (try simp only [List.map_toArray, List.map_cons, List.map_nil]); first | done | rfl) ?_; rintro e_ W_ ⟨rfl, hb_⟩; refine ⟨_, rfl, hb_, fun H_ => ?_⟩; clear H; have H := H_; clear H_) | ((first | (refine hp_store0 H rfl rfl rfl rfl rfl (by kernel_rfl) (by first | rfl | exact fit_.out) (by rfl) (by first | exact sv_at _ _ | exact sv_all _ rfl) ?_) | (refine hp_store1 H rfl rfl rfl rfl rfl (by kernel_rfl) (by first | rfl | exact fit_.out) (by rfl) (by first | exact sv_at _ _ | exact sv_all _ rfl) ?_) | (refine hp_store2 H rfl rfl rfl rfl rfl (by kernel_rfl) (by first | rfl | exact fit_.out) (by rfl) (by first | exact sv_at _ _ | exact sv_all _ rfl) ?_)); intro W_ H_; clear H; have H := H_; clear H_) | ((with_reducible refine gate_draw ?_); have k0 := H.cell (by repeat (first | exact .head _ | refine .tail _ ?_)) 0 (i_op i); have k1 := H.cell (by repeat (first | exact .head _ | refine .tail _ ?_)) 1 (i_a i); have k2 := H.cell (by repeat (first | exact .head _ | refine .tail _ ?_)) 2 (i_b i); have k3 := H.cell (by repeat (first | exact .head _ | refine .tail _ ?_)) _ (sv_reg { s with at_ := wrap64 (s.at_ + 1) } i.a h0 h1); have k4 := H.cell (by repeat (first | exact .head _ | refine .tail _ ?_)) _ (sv_reg { s with at_ := wrap64 (s.at_ + 1) } i.b h2 h3); go_quiet ((go_at_call 65; exact Calls.quiet_of ((alu_Taken.calls i.op _ _ true _ ht.out).mono fun _ _ hq => ⟨hq.1, hq.2.out⟩))); clear k0 k1 k2 k3 k4; have H := H.drewN nq))
        rw [e.out]
        exact (bodyPost_ret (results_cell_row rfl _ _ _ 37 _ (0, 0) _ rfl (H.heap (by repeat (first | exact .head _ | refine .tail _ ?_))) Try.underlying37 rfl (by kernel_rfl)) rfl ⟨{ s with at_ := wrap64 (wrap64 (s.at_ + 1) + i.imm) }, rfl, fun W9_ hW9_ hd => ⟨by simp only [hd.at_], hd.R, hd.n16, hd.back, hd.wr, hd.byt, hd.inp, hd.out, hd.en, hd.code, hd.flt⟩, H.below⟩)
      | false =>
        simp only [Bool.false_eq_true, if_false] at e
        go_enter Try.func51, Try.ntmps51
        go_wp2_with (first | (refine hp_box H rfl rfl rfl ?_; intro g_ W_ H_; clear H; have H := H_; clear H_) | (refine hp_alloc H rfl rfl (fun w_ => by go_simp; rfl) ?_; intro g_ W_ H_; clear H; have H := H_; clear H_) | (first | (refine hp_whole H rfl (ty := 37) rfl rfl (by repeat (first | exact .head _ | refine .tail _ ?_)) (by kernel_rfl) (by kernel_rfl) ?_)) | (refine hp_load H rfl rfl rfl (by repeat (first | exact .head _ | refine .tail _ ?_)) (by kernel_rfl) (by first | exact i_op _ | exact i_imm _ | exact g_at _) ?_) | (refine hp_goes H rfl (f := 64) rfl Try.func64 (by kernel_rfl) rfl (flip_k _ _ hf.out _) (by (try simp only [List.map_toArray, List.map_cons, List.map_nil]); first | done | rfl) ?_; rintro e_ W_ ⟨rfl, hb_⟩; refine ⟨_, rfl, hb_, fun H_ => ?_⟩; clear H; have H := H_; clear H_) | ((first | (refine hp_store0 H rfl rfl rfl rfl rfl (by kernel_rfl) (by first | rfl | exact fit_.out) (by rfl) (by first | exact sv_at _ _ | exact sv_all _ rfl) ?_) | (refine hp_store1 H rfl rfl rfl rfl rfl (by kernel_rfl) (by first | rfl | exact fit_.out) (by rfl) (by first | exact sv_at _ _ | exact sv_all _ rfl) ?_) | (refine hp_store2 H rfl rfl rfl rfl rfl (by kernel_rfl) (by first | rfl | exact fit_.out) (by rfl) (by first | exact sv_at _ _ | exact sv_all _ rfl) ?_)); intro W_ H_; clear H; have H := H_; clear H_) | ((with_reducible refine gate_draw ?_); have k0 := H.cell (by repeat (first | exact .head _ | refine .tail _ ?_)) 0 (i_op i); have k1 := H.cell (by repeat (first | exact .head _ | refine .tail _ ?_)) 1 (i_a i); have k2 := H.cell (by repeat (first | exact .head _ | refine .tail _ ?_)) 2 (i_b i); have k3 := H.cell (by repeat (first | exact .head _ | refine .tail _ ?_)) _ (sv_reg { s with at_ := wrap64 (s.at_ + 1) } i.a h0 h1); have k4 := H.cell (by repeat (first | exact .head _ | refine .tail _ ?_)) _ (sv_reg { s with at_ := wrap64 (s.at_ + 1) } i.b h2 h3); go_quiet ((go_at_call 65; exact Calls.quiet_of ((alu_Taken.calls i.op _ _ false _ ht.out).mono fun _ _ hq => ⟨hq.1, hq.2.out⟩))); clear k0 k1 k2 k3 k4; have H := H.drewN nq))
        rw [e.out]
        exact (bodyPost_ret (results_cell_row rfl _ _ _ 37 _ (0, 0) _ rfl (H.heap (by repeat (first | exact .head _ | refine .tail _ ?_))) Try.underlying37 rfl (by kernel_rfl)) rfl ⟨{ s with at_ := wrap64 (s.at_ + 1) }, rfl, fun W9_ hW9_ hd => ⟨by simp only [hd.at_], hd.R, hd.n16, hd.back, hd.wr, hd.byt, hd.inp, hd.out, hd.en, hd.code, hd.flt⟩, H.below⟩)
    · have hf : flipF i.op = -1 := by unfold flipF; (repeat' split) <;> omega
      have e : Aside0 (t.leads i = { t with at_ := wrap64 (wrap64 (t.at_ + 1) + i.imm) }) := ⟨by unfold St.leads; rw [if_neg h20, if_pos (.inl hf)]⟩
      replace hf := Aside0.mk hf
      go_enter Try.func51, Try.ntmps51
      go_wp2_with (first | (refine hp_box H rfl rfl rfl ?_; intro g_ W_ H_; clear H; have H := H_; clear H_) | (refine hp_alloc H rfl rfl (fun w_ => by go_simp; rfl) ?_; intro g_ W_ H_; clear H; have H := H_; clear H_) | (first | (refine hp_whole H rfl (ty := 37) rfl rfl (by repeat (first | exact .head _ | refine .tail _ ?_)) (by kernel_rfl) (by kernel_rfl) ?_)) | (refine hp_load H rfl rfl rfl (by repeat (first | exact .head _ | refine .tail _ ?_)) (by kernel_rfl) (by first | exact i_op _ | exact i_imm _ | exact g_at _) ?_) | (refine hp_goes H rfl (f := 64) rfl Try.func64 (by kernel_rfl) rfl (flip_k _ _ hf.out _) (by (try simp only [List.map_toArray, List.map_cons, List.map_nil]); first | done | rfl) ?_; rintro e_ W_ ⟨rfl, hb_⟩; refine ⟨_, rfl, hb_, fun H_ => ?_⟩; clear H; have H := H_; clear H_) | ((first | (refine hp_store0 H rfl rfl rfl rfl rfl (by kernel_rfl) (by first | rfl | exact fit_.out) (by rfl) (by first | exact sv_at _ _ | exact sv_all _ rfl) ?_) | (refine hp_store1 H rfl rfl rfl rfl rfl (by kernel_rfl) (by first | rfl | exact fit_.out) (by rfl) (by first | exact sv_at _ _ | exact sv_all _ rfl) ?_) | (refine hp_store2 H rfl rfl rfl rfl rfl (by kernel_rfl) (by first | rfl | exact fit_.out) (by rfl) (by first | exact sv_at _ _ | exact sv_all _ rfl) ?_)); intro W_ H_; clear H; have H := H_; clear H_) | ((with_reducible refine gate_draw ?_); go_quiet (fail); have H := H.drewN nq))
      rw [e.out]
      exact (bodyPost_ret (results_cell_row rfl _ _ _ 37 _ (0, 0) _ rfl (H.heap (by repeat (first | exact .head _ | refine .tail _ ?_))) Try.underlying37 rfl (by kernel_rfl)) rfl ⟨{ s with at_ := wrap64 (wrap64 (s.at_ + 1) + i.imm) }, rfl, fun W9_ hW9_ hd => ⟨by simp only [hd.at_], hd.R, hd.n16, hd.back, hd.wr, hd.byt, hd.inp, hd.out, hd.en, hd.code, hd.flt⟩, H.below⟩)
end Go.Proofs.Ytcagccodmmcnfaa.Cpu
end
