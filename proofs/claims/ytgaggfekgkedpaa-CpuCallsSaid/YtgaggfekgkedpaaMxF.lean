/- Several texts in one, written by mergeall.py. Own work. -/
import Derived.Test.YtgaggfekgkedpaaMxA
import Derived.Test.YtgaggfekgkedpaaQ3
import Derived.Test.YtgaggfekgkedpaaQ4
import Derived.Test.YtgaggfekgkedpaaQB
import Derived.Test.YtgaggfekgkedpaaQ40
import Derived.Test.YtgaggfekgkedpaaQ39
import Derived.Test.YtgaggfekgkedpaaMxB
import Derived.WalkSpells
section
/- Rows compared: what the printed loops say. Own work; a template. -/
namespace Go.Proofs.Ytgaggfekgkedpaa.Cpu
open Go.RowKit Go.Proofs.YtgaggfekgkedpaaW.PrintWords Go.Proofs.YtgaggfekgkedpaaW.PrintLast Go.Proofs.YtgaggfekgkedpaaW.PrintMore Go.Proofs.Ytgaggfekgkedpaa.Hp Go.Proofs.Ytgaggfekgkedpaa.Q
theorem eq_loop (xs ys : List Int) (hl : xs.length = ys.length) (l : Nat → Int → Option Bool) (h : ∀ (k i : Nat), i < xs.length → l (k + 1) (i : Int) = if rd xs i = rd ys i then l k ((i + 1 : Nat) : Int) else some false) (he : ∀ k, l (k + 1) (xs.length : Int) = some true) :
    ∀ (d i : Nat), i + d = xs.length → l (d + 1) (i : Int) = some (xs.drop i == ys.drop i)
  | 0, i, hi => by
    obtain rfl : i = xs.length := by omega
    rw [he, List.drop_length, hl, List.drop_length]
    rfl
  | d + 1, i, hi => by
    have h1 : i < xs.length := by omega
    have h2 : i < ys.length := by omega
    rw [h _ _ h1, List.drop_eq_getElem_cons h1, List.drop_eq_getElem_cons h2]
    have e1 : rd xs (i : Int) = xs[i] := by unfold rd; rw [Int.toNat_natCast, List.getD_eq_getElem?_getD, List.getElem?_eq_getElem h1]; rfl
    have e2 : rd ys (i : Int) = ys[i] := by unfold rd; rw [Int.toNat_natCast, List.getD_eq_getElem?_getD, List.getElem?_eq_getElem h2]; rfl
    rw [e1, e2]
    by_cases hq : xs[i] = ys[i]
    · rw [if_pos hq, eq_loop xs ys hl l h he d (i + 1) (by omega)]
      show _ = some ((xs[i] == ys[i]) && (xs.drop (i + 1) == ys.drop (i + 1)))
      rw [hq, beq_self_eq_true, Bool.true_and]
    · rw [if_neg hq]
      show _ = some ((xs[i] == ys[i]) && (xs.drop (i + 1) == ys.drop (i + 1)))
      rw [beq_eq_false_iff_ne.2 hq, Bool.false_and]
theorem ne_len {xs ys : List Int} (h : ¬ (xs.length : Int) = (ys.length : Int)) : (xs == ys) = false := by
  rw [beq_eq_false_iff_ne]
  rintro rfl
  exact h rfl
theorem w64n {i : Nat} (h : i < 9223372036854775807) : wrap64 ((i : Int) + 1) = ((i + 1 : Nat) : Int) := by
  unfold wrap64
  omega
theorem ints_f (xs ys : List Int) (hb : xs.length ≤ 9223372036854775807) : slices_Equal_int_int.f (xs.length + 1) xs ys = some (xs == ys) := by
  unfold slices_Equal_int_int.f
  by_cases hl : (xs.length : Int) = (ys.length : Int)
  · rw [if_pos hl]
    refine eq_loop xs ys (by omega) (fun k i => slices_Equal_int_int.l0 k xs ys (xs.length : Int) i) (fun k i hi => ?_) (fun k => ?_) xs.length 0 (by omega)
    · simp only [slices_Equal_int_int.l0]
      rw [if_pos (by omega), if_pos (by omega), if_pos (by omega), if_pos (by omega), w64n (by omega)]
    · simp only [slices_Equal_int_int.l0]
      rw [if_neg (by omega)]
  · rw [if_neg hl, ne_len hl]
theorem bytes_f (xs ys : List Int) (hb : xs.length ≤ 9223372036854775807) : slices_Equal_byte_byte.f (xs.length + 1) xs ys = some (xs == ys) := by
  unfold slices_Equal_byte_byte.f
  by_cases hl : (xs.length : Int) = (ys.length : Int)
  · rw [if_pos hl]
    refine eq_loop xs ys (by omega) (fun k i => slices_Equal_byte_byte.l0 k xs ys (xs.length : Int) i) (fun k i hi => ?_) (fun k => ?_) xs.length 0 (by omega)
    · simp only [slices_Equal_byte_byte.l0]
      rw [if_pos (by omega), if_pos (by omega), if_pos (by omega), if_pos (by omega), w64n (by omega)]
    · simp only [slices_Equal_byte_byte.l0]
      rw [if_neg (by omega)]
  · rw [if_neg hl, ne_len hl]
theorem same_f (xs ys : List Int) (hb : xs.length ≤ 9223372036854775807) : spliceref01_Same.f (xs.length + 1) xs ys = some (xs == ys) := by
  unfold spliceref01_Same.f
  by_cases hl : (xs.length : Int) = (ys.length : Int)
  · rw [if_pos hl]
    refine eq_loop xs ys (by omega) (fun k i => spliceref01_Same.l0 k xs ys i) (fun k i hi => ?_) (fun k => ?_) xs.length 0 (by omega)
    · simp only [spliceref01_Same.l0]
      rw [if_pos (by omega), if_pos (by omega), if_pos (by omega), w64n (by omega)]
    · simp only [spliceref01_Same.l0]
      rw [if_neg (by omega)]
  · rw [if_neg hl, ne_len hl]
theorem rints_f (xs ys : List Int) (hb : xs.length ≤ 9223372036854775807) : spliceref03_Ints.f (xs.length + 1) xs ys = some (xs == ys) := by
  unfold spliceref03_Ints.f
  by_cases hl : (xs.length : Int) = (ys.length : Int)
  · rw [if_pos hl]
    refine eq_loop xs ys (by omega) (fun k i => spliceref03_Ints.l0 k xs ys i) (fun k i hi => ?_) (fun k => ?_) xs.length 0 (by omega)
    · simp only [spliceref03_Ints.l0]
      rw [if_pos (by omega), if_pos (by omega), if_pos (by omega), w64n (by omega)]
    · simp only [spliceref03_Ints.l0]
      rw [if_neg (by omega)]
  · rw [if_neg hl, ne_len hl]
theorem mem_f (a b : Int) (xs ys : List Int) (hb : xs.length ≤ 9223372036854775807) : spliceref05_Same.f (xs.length + 1) a xs b ys = some (a == b && xs == ys) := by
  unfold spliceref05_Same.f
  rw [same_f xs ys hb]
  by_cases h : a = b
  · rw [if_pos h]; simp [h]
  · rw [if_neg h]; simp [h]
section
variable {w : World} {A B : Option Addr} {n c m d : Nat} {l l' : List Int}
theorem rd_len {k : IntKind} (h : RdS k w A n c l) : l.length ≤ 9223372036854775807 := by have := h.1; have := h.2.1; have := h.2.2.1; omega
theorem eqI_c (h1 : RdS .i64 w A n c l) (h2 : RdS .i64 w B m d l') {r : Bool} (hr : (l == l') = r) : Calls Try.prog 22 #[.slice A n c, .slice B m d] w fun e w' => e = .returned (.bool r) ∧ Below w.heap.size w w' := by
  obtain ⟨rfl, hc, hm, hk⟩ := h1
  obtain ⟨rfl, hc', hm', hk'⟩ := h2
  exact (slices_Equal_int_int.calls _ A c l B d l' r w hk hc hk' hc' (by rw [← hr]; exact ints_f l l' (by omega))).mono fun _ _ hq => ⟨hq.1, hq.2.below⟩
theorem eqB_c (h1 : RdS .u8 w A n c l) (h2 : RdS .u8 w B m d l') {r : Bool} (hr : (l == l') = r) : Calls Try.prog 23 #[.slice A n c, .slice B m d] w fun e w' => e = .returned (.bool r) ∧ Below w.heap.size w w' := by
  obtain ⟨rfl, hc, hm, hk⟩ := h1
  obtain ⟨rfl, hc', hm', hk'⟩ := h2
  exact (slices_Equal_byte_byte.calls _ A c l B d l' r w hk hc hk' hc' (by rw [← hr]; exact bytes_f l l' (by omega))).mono fun _ _ hq => ⟨hq.1, hq.2.below⟩
theorem rsame_c (h1 : RdS .u8 w A n c l) (h2 : RdS .u8 w B m d l') {r : Bool} (hr : (l == l') = r) : Calls Try.prog 16 #[.slice A n c, .slice B m d] w fun e w' => e = .returned (.bool r) ∧ Below w.heap.size w w' := by
  obtain ⟨rfl, hc, hm, hk⟩ := h1
  obtain ⟨rfl, hc', hm', hk'⟩ := h2
  exact (spliceref01_Same.calls _ A c l B d l' r w hk hc hk' hc' (by rw [← hr]; exact same_f l l' (by omega))).mono fun _ _ hq => ⟨hq.1, hq.2.below⟩
theorem rints_c (h1 : RdS .i64 w A n c l) (h2 : RdS .i64 w B m d l') {r : Bool} (hr : (l == l') = r) : Calls Try.prog 21 #[.slice A n c, .slice B m d] w fun e w' => e = .returned (.bool r) ∧ Below w.heap.size w w' := by
  obtain ⟨rfl, hc, hm, hk⟩ := h1
  obtain ⟨rfl, hc', hm', hk'⟩ := h2
  exact (spliceref03_Ints.calls _ A c l B d l' r w hk hc hk' hc' (by rw [← hr]; exact rints_f l l' (by omega))).mono fun _ _ hq => ⟨hq.1, hq.2.below⟩
theorem rmem_c (a b : Int) (h1 : RdS .u8 w A n c l) (h2 : RdS .u8 w B m d l') {r : Bool} (hr : (a == b && l == l') = r) : Calls Try.prog 15 #[.agg #[.int .i64 a, .slice A n c], .agg #[.int .i64 b, .slice B m d]] w fun e w' => e = .returned (.bool r) ∧ Below w.heap.size w w' := by
  obtain ⟨rfl, hc, hm, hk⟩ := h1
  obtain ⟨rfl, hc', hm', hk'⟩ := h2
  exact (spliceref05_Same.calls _ a A c l b B d l' r w hk hc hk' hc' (by rw [← hr]; exact mem_f a b l l' (by omega))).mono fun _ _ hq => ⟨hq.1, hq.2⟩
end
theorem words_f (xs ys : List Int) (hb : xs.length ≤ 9223372036854775807) : spliceref01_Words.f (xs.length + 1) xs ys = some (xs == ys) := by
  unfold spliceref01_Words.f
  by_cases hl : (xs.length : Int) = (ys.length : Int)
  · rw [if_pos hl]
    refine eq_loop xs ys (by omega) (fun k i => spliceref01_Words.l0 k xs ys i) (fun k i hi => ?_) (fun k => ?_) xs.length 0 (by omega)
    · simp only [spliceref01_Words.l0]
      rw [if_pos (by omega), if_pos (by omega), if_pos (by omega), w64n (by omega)]
    · simp only [spliceref01_Words.l0]
      rw [if_neg (by omega)]
  · rw [if_neg hl, ne_len hl]
theorem rwords_c {w : World} {A B : Option Addr} {n c m d : Nat} {l l' : List Int} (h1 : RdS .u32 w A n c l) (h2 : RdS .u32 w B m d l') {r : Bool} (hr : (l == l') = r) : Calls Try.prog 18 #[.slice A n c, .slice B m d] w fun e w' => e = .returned (.bool r) ∧ Below w.heap.size w w' := by
  obtain ⟨rfl, hc, hm, hk⟩ := h1
  obtain ⟨rfl, hc', hm', hk'⟩ := h2
  exact (spliceref01_Words.calls _ A c l B d l' r w hk hc hk' hc' (by rw [← hr]; exact words_f l l' (by omega))).mono fun _ _ hq => ⟨hq.1, hq.2.below⟩
end Go.Proofs.Ytgaggfekgkedpaa.Cpu
end
section
/- States compared: cpu.Same, spliceref06.Same. Own work; a template, printed by gen_same.py. -/
namespace Go.Proofs.Ytgaggfekgkedpaa.Cpu
open Go.RowKit Go.Proofs.YtgaggfekgkedpaaW.PrintWords Go.Proofs.YtgaggfekgkedpaaW.PrintLast Go.Proofs.YtgaggfekgkedpaaW.PrintMore Go.Proofs.Ytgaggfekgkedpaa.Hp Go.Proofs.Ytgaggfekgkedpaa.Q
set_option linter.unusedVariables false
set_option linter.unusedSimpArgs false
attribute [local go_sem] add_any
def sameF (t v : St) : Bool := t.at_ == v.at_ && (t.R == v.R && (t.back == v.back && (t.wr == v.wr && (t.byt == v.byt && (t.inp == v.inp && (t.out == v.out && (t.en == v.en && (t.code == v.code && t.flt == v.flt))))))))
theorem sv_arr (s : SV) (h : s.R.length = 16) : s.c.extract 1 (1 + 16) = (nums .u32 s.R).toArray := by
  obtain ⟨a, R, s⟩ := s
  simp only at h
  match R, h with
  | [r0, r1, r2, r3, r4, r5, r6, r7, r8, r9, r10, r11, r12, r13, r14, r15], _ => rfl

set_option maxHeartbeats 40000000 in
set_option maxRecDepth 100000 in
theorem same_c (s u : SV) (t v : St) (w : World) (h : Aside0 (Rd w s t)) (k : Aside0 (Rd w u v)) {r : Bool} (hr : sameF t v = r) : Calls Try.prog 12 #[.agg s.c, .agg u.c] w fun e w' => e = .returned (.bool r) ∧ Below w.heap.size w w' := by
  have hsn : Aside0 (s.R.length = 16) := ⟨by rw [h.out.R]; exact h.out.n16⟩
  have hun : Aside0 (u.R.length = 16) := ⟨by rw [k.out.R]; exact k.out.n16⟩
  have H := Hp.nil w
  have hd := h.out
  have kd := k.out
  have hr' : sameF t v = r := hr
  unfold sameF at hr'
  rw [← hd.at_, ← kd.at_, ← hd.R, ← kd.R, ← hd.wr, ← kd.wr, ← hd.en, ← kd.en, ← hd.code, ← kd.code, ← hd.flt, ← kd.flt] at hr'
  clear hr hd kd
  cases c0 : (s.at_ == u.at_)
  obtain rfl : false = r := by
    rw [← hr']
    simp only [c0, Bool.true_and, Bool.false_and]
  clear hr'
  rotate_left
  cases c1 : (s.R == u.R)
  obtain rfl : false = r := by
    rw [← hr']
    simp only [c0, c1, Bool.true_and, Bool.false_and]
  clear hr'
  replace c1 := Aside0.mk c1
  rotate_left
  replace c1 := Aside0.mk c1
  cases c2 : (t.back == v.back)
  obtain rfl : false = r := by
    rw [← hr']
    simp only [c0, c1.out, c2, Bool.true_and, Bool.false_and]
  clear hr'
  replace c2 := Aside0.mk c2
  rotate_left
  replace c2 := Aside0.mk c2
  cases c3 : (s.wr == u.wr)
  obtain rfl : false = r := by
    rw [← hr']
    simp only [c0, c1.out, c2.out, c3, Bool.true_and, Bool.false_and]
  clear hr'
  rotate_left
  cases c4 : (t.byt == v.byt)
  obtain rfl : false = r := by
    rw [← hr']
    simp only [c0, c1.out, c2.out, c3, c4, Bool.true_and, Bool.false_and]
  clear hr'
  replace c4 := Aside0.mk c4
  rotate_left
  replace c4 := Aside0.mk c4
  cases c5 : (t.inp == v.inp)
  obtain rfl : false = r := by
    rw [← hr']
    simp only [c0, c1.out, c2.out, c3, c4.out, c5, Bool.true_and, Bool.false_and]
  clear hr'
  replace c5 := Aside0.mk c5
  rotate_left
  replace c5 := Aside0.mk c5
  cases c6 : (t.out == v.out)
  obtain rfl : false = r := by
    rw [← hr']
    simp only [c0, c1.out, c2.out, c3, c4.out, c5.out, c6, Bool.true_and, Bool.false_and]
  clear hr'
  replace c6 := Aside0.mk c6
  rotate_left
  replace c6 := Aside0.mk c6
  cases c7 : (s.en == u.en)
  obtain rfl : false = r := by
    rw [← hr']
    simp only [c0, c1.out, c2.out, c3, c4.out, c5.out, c6.out, c7, Bool.true_and, Bool.false_and]
  clear hr'
  rotate_left
  cases c8 : (s.code == u.code)
  obtain rfl : false = r := by
    rw [← hr']
    simp only [c0, c1.out, c2.out, c3, c4.out, c5.out, c6.out, c7, c8, Bool.true_and, Bool.false_and]
  clear hr'
  rotate_left
  cases c9 : (s.flt == u.flt)
  obtain rfl : false = r := by
    rw [← hr']
    simp only [c0, c1.out, c2.out, c3, c4.out, c5.out, c6.out, c7, c8, c9, Bool.true_and, Bool.false_and]
  clear hr'
  rotate_left
  obtain rfl : true = r := by
    rw [← hr']
    simp only [c0, c1.out, c2.out, c3, c4.out, c5.out, c6.out, c7, c8, c9, Bool.true_and, Bool.and_true]
  clear hr'
  all_goals go_enter Try.func12, Try.ntmps12
  all_goals try simp only [List.append]
  all_goals go_wp2_with (first | ((with_reducible refine gate_guardG ?_); refine hp_guardLG rfl rfl ?_; (with_reducible first | refine go_tt ?_ | refine go_ff ?_ | refine go_tf ?_ | refine go_ft ?_); (try simp only [Act.put, List.setIfInBounds_toArray, List.set_cons_zero, List.set_cons_succ])) | ((with_reducible refine gate_boxG ?_); (refine hp_boxG H rfl rfl rfl ?_; intro g_ W_ H_; clear H; have H := H_; clear H_); (try simp only [Act.put, List.setIfInBounds_toArray, List.set_cons_zero, List.set_cons_succ])) | ((with_reducible refine gate_loadG ?_); (refine hp_loadsG H rfl (ty := 27) rfl rfl (by repeat (first | exact .head _ | refine .tail _ ?_)) (by kernel_rfl) (n := 16) (by kernel_rfl) rfl (sv_arr _ hsn.out) ?_); (try simp only [Act.put, List.setIfInBounds_toArray, List.set_cons_zero, List.set_cons_succ])) | ((with_reducible refine gate_loadG ?_); (refine hp_loadsG H rfl (ty := 27) rfl rfl (by repeat (first | exact .head _ | refine .tail _ ?_)) (by kernel_rfl) (n := 16) (by kernel_rfl) rfl (sv_arr _ hun.out) ?_); (try simp only [Act.put, List.setIfInBounds_toArray, List.set_cons_zero, List.set_cons_succ])) | ((with_reducible refine gate_loadG ?_); (refine hp_loadG H rfl rfl rfl (by repeat (first | exact .head _ | refine .tail _ ?_)) (by kernel_rfl) (by first | exact g_at _ | exact g_wr _ | exact g_back _ | exact g_byt _ | exact g_inp _ | exact g_out _ | exact g_en _ | exact g_code _ | exact g_flt _) ?_); (try simp only [Act.put, List.setIfInBounds_toArray, List.set_cons_zero, List.set_cons_succ])) | ((with_reducible refine gate_binG ?_); (refine hp_eqRG rfl rfl rfl rfl (k := .u32) (n := 16) rfl rfl (by kernel_rfl) hsn.out hun.out c1.out ?_); (try simp only [Act.put, List.setIfInBounds_toArray, List.set_cons_zero, List.set_cons_succ])) | ((with_reducible refine gate_fnG ?_); (refine hp_goesG H rfl (f := 22) rfl Try.func22 (by kernel_rfl) rfl (eqI_c ((h.out.back).below H.below) ((k.out.back).below H.below) c2.out) (by (try simp only [List.map_toArray, List.map_cons, List.map_nil]); first | done | rfl) ?_; rintro e_ W_ ⟨rfl, hb_⟩; refine ⟨_, rfl, hb_, fun H_ => ?_⟩; clear H; have H := H_; clear H_); (try simp only [Act.put, List.setIfInBounds_toArray, List.set_cons_zero, List.set_cons_succ])) | ((with_reducible refine gate_fnG ?_); (refine hp_goesG H rfl (f := 23) rfl Try.func23 (by kernel_rfl) rfl (eqB_c ((h.out.byt).below H.below) ((k.out.byt).below H.below) c4.out) (by (try simp only [List.map_toArray, List.map_cons, List.map_nil]); first | done | rfl) ?_; rintro e_ W_ ⟨rfl, hb_⟩; refine ⟨_, rfl, hb_, fun H_ => ?_⟩; clear H; have H := H_; clear H_); (try simp only [Act.put, List.setIfInBounds_toArray, List.set_cons_zero, List.set_cons_succ])) | ((with_reducible refine gate_fnG ?_); (refine hp_goesG H rfl (f := 23) rfl Try.func23 (by kernel_rfl) rfl (eqB_c ((h.out.inp).below H.below) ((k.out.inp).below H.below) c5.out) (by (try simp only [List.map_toArray, List.map_cons, List.map_nil]); first | done | rfl) ?_; rintro e_ W_ ⟨rfl, hb_⟩; refine ⟨_, rfl, hb_, fun H_ => ?_⟩; clear H; have H := H_; clear H_); (try simp only [Act.put, List.setIfInBounds_toArray, List.set_cons_zero, List.set_cons_succ])) | ((with_reducible refine gate_fnG ?_); (refine hp_goesG H rfl (f := 23) rfl Try.func23 (by kernel_rfl) rfl (eqB_c ((h.out.out).below H.below) ((k.out.out).below H.below) c6.out) (by (try simp only [List.map_toArray, List.map_cons, List.map_nil]); first | done | rfl) ?_; rintro e_ W_ ⟨rfl, hb_⟩; refine ⟨_, rfl, hb_, fun H_ => ?_⟩; clear H; have H := H_; clear H_); (try simp only [Act.put, List.setIfInBounds_toArray, List.set_cons_zero, List.set_cons_succ])))
  all_goals go_ret
  all_goals exact ⟨rfl, H.below⟩
set_option maxHeartbeats 40000000 in
set_option maxRecDepth 100000 in
theorem rsame6_c (s u : SV) (t v : St) (w : World) (h : Aside0 (Rd w s t)) (k : Aside0 (Rd w u v)) {r : Bool} (hr : sameF t v = r) : Calls Try.prog 10 #[.agg s.c, .agg u.c] w fun e w' => e = .returned (.bool r) ∧ Below w.heap.size w w' := by
  have hsn : Aside0 (s.R.length = 16) := ⟨by rw [h.out.R]; exact h.out.n16⟩
  have hun : Aside0 (u.R.length = 16) := ⟨by rw [k.out.R]; exact k.out.n16⟩
  have H := Hp.nil w
  have hd := h.out
  have kd := k.out
  have hr' : sameF t v = r := hr
  unfold sameF at hr'
  simp only [← Bool.and_assoc (t.wr == v.wr)] at hr'
  rw [← hd.at_, ← kd.at_, ← hd.R, ← kd.R, ← hd.wr, ← kd.wr, ← hd.en, ← kd.en, ← hd.code, ← kd.code, ← hd.flt, ← kd.flt] at hr'
  clear hr hd kd
  cases c0 : (s.at_ == u.at_)
  obtain rfl : false = r := by
    rw [← hr']
    simp only [c0, Bool.true_and, Bool.false_and]
  clear hr'
  rotate_left
  cases c1 : (s.R == u.R)
  obtain rfl : false = r := by
    rw [← hr']
    simp only [c0, c1, Bool.true_and, Bool.false_and]
  clear hr'
  replace c1 := Aside0.mk c1
  rotate_left
  replace c1 := Aside0.mk c1
  cases c2 : (t.back == v.back)
  obtain rfl : false = r := by
    rw [← hr']
    simp only [c0, c1.out, c2, Bool.true_and, Bool.false_and]
  clear hr'
  replace c2 := Aside0.mk c2
  rotate_left
  replace c2 := Aside0.mk c2
  cases c3 : (s.wr == u.wr && t.byt == v.byt)
  obtain rfl : false = r := by
    rw [← hr']
    simp only [c0, c1.out, c2.out, c3, Bool.true_and, Bool.false_and]
  clear hr'
  replace c3 := Aside0.mk c3
  rotate_left
  replace c3 := Aside0.mk c3
  cases c4 : (t.inp == v.inp)
  obtain rfl : false = r := by
    rw [← hr']
    simp only [c0, c1.out, c2.out, c3.out, c4, Bool.true_and, Bool.false_and]
  clear hr'
  replace c4 := Aside0.mk c4
  rotate_left
  replace c4 := Aside0.mk c4
  cases c5 : (t.out == v.out)
  obtain rfl : false = r := by
    rw [← hr']
    simp only [c0, c1.out, c2.out, c3.out, c4.out, c5, Bool.true_and, Bool.false_and]
  clear hr'
  replace c5 := Aside0.mk c5
  rotate_left
  replace c5 := Aside0.mk c5
  cases c6 : (s.en == u.en)
  obtain rfl : false = r := by
    rw [← hr']
    simp only [c0, c1.out, c2.out, c3.out, c4.out, c5.out, c6, Bool.true_and, Bool.false_and]
  clear hr'
  rotate_left
  cases c7 : (s.code == u.code)
  obtain rfl : false = r := by
    rw [← hr']
    simp only [c0, c1.out, c2.out, c3.out, c4.out, c5.out, c6, c7, Bool.true_and, Bool.false_and]
  clear hr'
  rotate_left
  cases c8 : (s.flt == u.flt)
  obtain rfl : false = r := by
    rw [← hr']
    simp only [c0, c1.out, c2.out, c3.out, c4.out, c5.out, c6, c7, c8, Bool.true_and, Bool.false_and]
  clear hr'
  rotate_left
  obtain rfl : true = r := by
    rw [← hr']
    simp only [c0, c1.out, c2.out, c3.out, c4.out, c5.out, c6, c7, c8, Bool.true_and, Bool.and_true]
  clear hr'
  all_goals go_enter Try.func10, Try.ntmps10
  all_goals try simp only [List.append]
  all_goals go_wp2_with (first | ((with_reducible refine gate_guardG ?_); refine hp_guardLG rfl rfl ?_; (with_reducible first | refine go_tt ?_ | refine go_ff ?_ | refine go_tf ?_ | refine go_ft ?_); (try simp only [Act.put, List.setIfInBounds_toArray, List.set_cons_zero, List.set_cons_succ])) | ((with_reducible refine gate_boxG ?_); (refine hp_boxG H rfl rfl rfl ?_; intro g_ W_ H_; clear H; have H := H_; clear H_); (try simp only [Act.put, List.setIfInBounds_toArray, List.set_cons_zero, List.set_cons_succ])) | ((with_reducible refine gate_loadG ?_); (refine hp_loadsG H rfl (ty := 27) rfl rfl (by repeat (first | exact .head _ | refine .tail _ ?_)) (by kernel_rfl) (n := 16) (by kernel_rfl) rfl (sv_arr _ hsn.out) ?_); (try simp only [Act.put, List.setIfInBounds_toArray, List.set_cons_zero, List.set_cons_succ])) | ((with_reducible refine gate_loadG ?_); (refine hp_loadsG H rfl (ty := 27) rfl rfl (by repeat (first | exact .head _ | refine .tail _ ?_)) (by kernel_rfl) (n := 16) (by kernel_rfl) rfl (sv_arr _ hun.out) ?_); (try simp only [Act.put, List.setIfInBounds_toArray, List.set_cons_zero, List.set_cons_succ])) | ((with_reducible refine gate_loadG ?_); (refine hp_loadsG H rfl (ty := 30) rfl rfl (by repeat (first | exact .head _ | refine .tail _ ?_)) (by kernel_rfl) (n := 2) (by kernel_rfl) rfl (sv_memx _) ?_); (try simp only [Act.put, List.setIfInBounds_toArray, List.set_cons_zero, List.set_cons_succ])) | ((with_reducible refine gate_loadG ?_); (refine hp_loadG H rfl rfl rfl (by repeat (first | exact .head _ | refine .tail _ ?_)) (by kernel_rfl) (by first | exact g_at _ | exact g_wr _ | exact g_back _ | exact g_byt _ | exact g_inp _ | exact g_out _ | exact g_en _ | exact g_code _ | exact g_flt _) ?_); (try simp only [Act.put, List.setIfInBounds_toArray, List.set_cons_zero, List.set_cons_succ])) | ((with_reducible refine gate_binG ?_); (refine hp_eqRG rfl rfl rfl rfl (k := .u32) (n := 16) rfl rfl (by kernel_rfl) hsn.out hun.out c1.out ?_); (try simp only [Act.put, List.setIfInBounds_toArray, List.set_cons_zero, List.set_cons_succ])) | ((with_reducible refine gate_fnG ?_); (refine hp_goesG H rfl (f := 21) rfl Try.func21 (by kernel_rfl) rfl (rints_c ((h.out.back).below H.below) ((k.out.back).below H.below) c2.out) (by (try simp only [List.map_toArray, List.map_cons, List.map_nil]); first | done | rfl) ?_; rintro e_ W_ ⟨rfl, hb_⟩; refine ⟨_, rfl, hb_, fun H_ => ?_⟩; clear H; have H := H_; clear H_); (try simp only [Act.put, List.setIfInBounds_toArray, List.set_cons_zero, List.set_cons_succ])) | ((with_reducible refine gate_fnG ?_); (refine hp_goesG H rfl (f := 15) rfl Try.func15 (by kernel_rfl) rfl (rmem_c _ _ ((h.out.byt).below H.below) ((k.out.byt).below H.below) c3.out) (by (try simp only [List.map_toArray, List.map_cons, List.map_nil]); first | done | rfl) ?_; rintro e_ W_ ⟨rfl, hb_⟩; refine ⟨_, rfl, hb_, fun H_ => ?_⟩; clear H; have H := H_; clear H_); (try simp only [Act.put, List.setIfInBounds_toArray, List.set_cons_zero, List.set_cons_succ])) | ((with_reducible refine gate_fnG ?_); (refine hp_goesG H rfl (f := 16) rfl Try.func16 (by kernel_rfl) rfl (rsame_c ((h.out.inp).below H.below) ((k.out.inp).below H.below) c4.out) (by (try simp only [List.map_toArray, List.map_cons, List.map_nil]); first | done | rfl) ?_; rintro e_ W_ ⟨rfl, hb_⟩; refine ⟨_, rfl, hb_, fun H_ => ?_⟩; clear H; have H := H_; clear H_); (try simp only [Act.put, List.setIfInBounds_toArray, List.set_cons_zero, List.set_cons_succ])) | ((with_reducible refine gate_fnG ?_); (refine hp_goesG H rfl (f := 16) rfl Try.func16 (by kernel_rfl) rfl (rsame_c ((h.out.out).below H.below) ((k.out.out).below H.below) c5.out) (by (try simp only [List.map_toArray, List.map_cons, List.map_nil]); first | done | rfl) ?_; rintro e_ W_ ⟨rfl, hb_⟩; refine ⟨_, rfl, hb_, fun H_ => ?_⟩; clear H; have H := H_; clear H_); (try simp only [Act.put, List.setIfInBounds_toArray, List.set_cons_zero, List.set_cons_succ])))
  all_goals go_ret
  all_goals exact ⟨rfl, H.below⟩
end Go.Proofs.Ytgaggfekgkedpaa.Cpu
end
section
/- What a state may be: spliceref06.Right, Few. Own work; a template. -/
namespace Go.Proofs.Ytgaggfekgkedpaa.Cpu
open Go.RowKit Go.Proofs.YtgaggfekgkedpaaW.PrintWords Go.Proofs.YtgaggfekgkedpaaW.PrintLast Go.Proofs.YtgaggfekgkedpaaW.PrintMore Go.Proofs.Ytgaggfekgkedpaa.Hp Go.Proofs.Ytgaggfekgkedpaa.Q
set_option linter.unusedVariables false
set_option linter.unusedSimpArgs false
attribute [local go_sem] add_any
theorem g_r0 (s : SV) : s.c[1]? = some (.int .u32 (rd s.R 0)) := rfl
def okP (x : Int) : Bool := decide (0 ≤ x) && decide (x ≤ 1073741824)
def rightF (t : St) : Bool := rd t.R 0 == 0 && (okP t.at_ && t.back.all okP)
theorem dec_no {x : Int} (h : okP x = false) (h0 : decide (x < 0) = false) : decide (x > 1073741824) = true := by
  unfold okP at h
  simp at h h0 ⊢
  omega
set_option maxHeartbeats 40000000 in
set_option maxRecDepth 100000 in
theorem right_c (s : SV) (t : St) (w : World) (h : Aside0 (Rd w s t)) {r : Bool} (hr : rightF t = r) : Calls Try.prog 19 #[.agg s.c] w fun e w' => e = .returned (.bool r) ∧ Below w.heap.size w w' := by
  have H := Hp.nil w
  have hr' := hr
  unfold rightF okP at hr'
  rw [← h.out.at_, ← h.out.R] at hr'
  cases c0 : (rd s.R 0 != 0)
  · have c0' : (rd s.R 0 == 0) = true := by simpa using c0
    cases c1 : decide (s.at_ < 0)
    · cases c2 : decide (s.at_ > 1073741824)
      · have hr2 : t.back.all okP = r := by
          rw [← hr', c0']
          simp at c1 c2
          simp [c1, c2]
          rfl
        clear hr hr' c0'
        replace hr2 := Aside0.mk hr2
        go_enter Try.func19, Try.ntmps19
        go_wp2_with (first | (refine hp_guard rfl ?_) | ((with_reducible refine gate_dst (N := 1) rfl ?_); refine hp_box H rfl rfl rfl ?_; intro gs W_ H_; clear H; have H := H_; clear H_) | (refine hp_load H rfl rfl rfl (by repeat (first | exact .head _ | refine .tail _ ?_)) (by kernel_rfl) (by first | exact g_r0 _ | exact g_at _) ?_))
        clear c0 c1 c2
        have hn := Aside0.mk h.out.back.1
        go_loopg [3] (t.back.length) (fun kq v3 w' => ∃ i : Nat, v3 = .int .i64 i ∧ Aside0 (i + kq = t.back.length ∧ (t.back.drop i).all okP = r) ∧ Hp w w' [(gs, s.c, 32)])
        case atStart => exact ⟨0, rfl, ⟨by omega, by rw [List.drop_zero]; exact hr2.out⟩, H⟩
        case round =>
          clear H hr2
          obtain ⟨i, rfl, hi, H⟩ := hrel
          by_cases hl : i < t.back.length
          · have d0 : decide (i < s.back.n) = true := decide_eq_true (by have := hn.out; omega)
            obtain ⟨ad, e0, hx⟩ := (h.out.back.below H.below).at_ (i : Int) (by omega) (by have := hn.out; omega)
            have igb : Aside0 (s.c[17]? = some (.slice (some ad) s.back.n s.back.c)) := ⟨by rw [g_back, e0]⟩
            rw [Int.toNat_natCast] at hx
            have hd := hi.out.2
            rw [List.drop_eq_getElem_cons hl, List.all_cons] at hd
            have er : rd t.back (i : Int) = t.back[i] := by unfold rd; rw [Int.toNat_natCast, List.getD_eq_getElem?_getD, List.getElem?_eq_getElem hl]; rfl
            rw [← er] at hd
            clear e0 er
            generalize rd t.back (i : Int) = x at hd hx
            have i0 : decide (0 ≤ (i : Int)) = true := decide_eq_true (by omega)
            have i1 : 0 ≤ (i : Int) := by omega
            have i2 : (i : Int) < (s.back.n : Int) := by have := hn.out; omega
            replace i1 := eq_true i1
            replace i2 := eq_true i2
            cases hq : okP x
            · obtain rfl : false = r := by rw [← hd, hq]; rfl
              clear hd
              cases c1 : decide (x < 0)
              · have c2 := dec_no hq c1
                clear hq
                go_wp2_with (first | (refine hp_guard rfl ?_) | (refine hp_load H rfl rfl rfl (by repeat (first | exact .head _ | refine .tail _ ?_)) (by kernel_rfl) (by first | exact igb.out) ?_))
                go_ret
                exact ⟨rfl, H.below⟩
              · clear hq
                go_wp2_with (first | (refine hp_guard rfl ?_) | (refine hp_load H rfl rfl rfl (by repeat (first | exact .head _ | refine .tail _ ?_)) (by kernel_rfl) (by first | exact igb.out) ?_))
                go_ret
                exact ⟨rfl, H.below⟩
            · rw [hq, Bool.true_and] at hd
              have c1 : decide (x < 0) = false := by unfold okP at hq; simp at hq ⊢; omega
              have c2 : decide (x > 1073741824) = false := by unfold okP at hq; simp at hq ⊢; omega
              clear hq
              replace hd := Aside0.mk hd
              have hw : Aside0 (wrap64 ((i : Int) + 1) = ((i + 1 : Nat) : Int)) := ⟨by have := hn.out; have := h.out.back.2.1; have := h.out.back.2.2.1; unfold wrap64; omega⟩
              go_wp2_with (first | (refine hp_guard rfl ?_) | (refine hp_load H rfl rfl rfl (by repeat (first | exact .head _ | refine .tail _ ?_)) (by kernel_rfl) (by first | exact igb.out) ?_))
              go_roundg (gk - 1)
              case measure => have := hi.out.1; omega
              case rel => exact ⟨i + 1, by rw [← hw.out], ⟨by have := hi.out.1; omega, hd.out⟩, H⟩
          · have d0 : decide (i < s.back.n) = false := decide_eq_false (by have := hn.out; omega)
            obtain rfl : true = r := by rw [← hi.out.2, List.drop_of_length_le (by omega)]; rfl
            go_wp2_with (first | (refine hp_guard rfl ?_) | (refine hp_load H rfl rfl rfl (by repeat (first | exact .head _ | refine .tail _ ?_)) (by kernel_rfl) (by first | exact g_back _) ?_))
            go_ret
            exact ⟨rfl, H.below⟩
      · obtain rfl : false = r := by
          rw [← hr']
          simp at c2
          simp [c2]
          intros; omega
        clear hr hr' c0'
        go_enter Try.func19, Try.ntmps19
        go_wp2_with (first | (refine hp_guard rfl ?_) | ((with_reducible refine gate_dst (N := 1) rfl ?_); refine hp_box H rfl rfl rfl ?_; intro gs W_ H_; clear H; have H := H_; clear H_) | (refine hp_load H rfl rfl rfl (by repeat (first | exact .head _ | refine .tail _ ?_)) (by kernel_rfl) (by first | exact g_r0 _ | exact g_at _) ?_))
        go_ret
        exact ⟨rfl, H.below⟩
    · obtain rfl : false = r := by
        rw [← hr']
        simp at c1
        simp [c1]
        intros; omega
      clear hr hr' c0'
      go_enter Try.func19, Try.ntmps19
      go_wp2_with (first | (refine hp_guard rfl ?_) | ((with_reducible refine gate_dst (N := 1) rfl ?_); refine hp_box H rfl rfl rfl ?_; intro gs W_ H_; clear H; have H := H_; clear H_) | (refine hp_load H rfl rfl rfl (by repeat (first | exact .head _ | refine .tail _ ?_)) (by kernel_rfl) (by first | exact g_r0 _ | exact g_at _) ?_))
      go_ret
      exact ⟨rfl, H.below⟩
  · obtain rfl : false = r := by
      rw [← hr']
      simp at c0
      simp [c0]
    clear hr hr'
    go_enter Try.func19, Try.ntmps19
    go_wp2_with (first | (refine hp_guard rfl ?_) | ((with_reducible refine gate_dst (N := 1) rfl ?_); refine hp_box H rfl rfl rfl ?_; intro gs W_ H_; clear H; have H := H_; clear H_) | (refine hp_load H rfl rfl rfl (by repeat (first | exact .head _ | refine .tail _ ?_)) (by kernel_rfl) (by first | exact g_r0 _ | exact g_at _) ?_))
    go_ret
    exact ⟨rfl, H.below⟩
def fewF (t : St) : Bool := rightF t && (decide (t.back.length ≤ 100) && (decide (t.byt.length ≤ 2000) && (decide (t.inp.length ≤ 500) && decide (t.out.length ≤ 5000))))
set_option maxHeartbeats 40000000 in
set_option maxRecDepth 100000 in
theorem few_c (s : SV) (t : St) (w : World) (h : Aside0 (Rd w s t)) {r : Bool} (hr : fewF t = r) : Calls Try.prog 8 #[.agg s.c] w fun e w' => e = .returned (.bool r) ∧ Below w.heap.size w w' := by
  have H := Hp.nil w
  have hr' := hr
  unfold fewF at hr'
  rw [← h.out.back.1, ← h.out.byt.1, ← h.out.inp.1, ← h.out.out.1] at hr'
  clear hr
  cases c0 : rightF t
  · obtain rfl : false = r := by rw [← hr', c0]; rfl
    clear hr'
    replace c0 := Aside0.mk c0
    go_enter Try.func8, Try.ntmps8
    go_wp2_with (first | (refine hp_guard rfl ?_) | (refine hp_box H rfl rfl rfl ?_; intro g_ W_ H_; clear H; have H := H_; clear H_) | (first | (refine hp_whole H rfl (ty := 32) rfl rfl (by repeat (first | exact .head _ | refine .tail _ ?_)) (by kernel_rfl) (by kernel_rfl) ?_)) | (refine hp_load H rfl rfl rfl (by repeat (first | exact .head _ | refine .tail _ ?_)) (by kernel_rfl) (by first | exact g_back _ | exact g_byt _ | exact g_inp _ | exact g_out _) ?_) | (refine hp_goes H rfl (f := 19) rfl Try.func19 (by kernel_rfl) rfl (right_c s t _ ⟨h.out.below H.below⟩ c0.out) (by (try simp only [List.map_toArray, List.map_cons, List.map_nil]); first | done | rfl) ?_; rintro e_ W_ ⟨rfl, hb_⟩; refine ⟨_, rfl, hb_, fun H_ => ?_⟩; clear H; have H := H_; clear H_))
    go_ret
    exact ⟨rfl, H.below⟩
  rw [c0, Bool.true_and] at hr'
  replace c0 := Aside0.mk c0
  cases cb : decide (s.back.n ≤ 100)
  · obtain rfl : false = r := by rw [← hr']; simp only [cb, Bool.false_and, Bool.true_and]
    clear hr'
    have zb : decide ((s.back.n : Int) ≤ 100) = false := by simp at cb ⊢; omega
    go_enter Try.func8, Try.ntmps8
    go_wp2_with (first | (refine hp_guard rfl ?_) | (refine hp_box H rfl rfl rfl ?_; intro g_ W_ H_; clear H; have H := H_; clear H_) | (first | (refine hp_whole H rfl (ty := 32) rfl rfl (by repeat (first | exact .head _ | refine .tail _ ?_)) (by kernel_rfl) (by kernel_rfl) ?_)) | (refine hp_load H rfl rfl rfl (by repeat (first | exact .head _ | refine .tail _ ?_)) (by kernel_rfl) (by first | exact g_back _ | exact g_byt _ | exact g_inp _ | exact g_out _) ?_) | (refine hp_goes H rfl (f := 19) rfl Try.func19 (by kernel_rfl) rfl (right_c s t _ ⟨h.out.below H.below⟩ c0.out) (by (try simp only [List.map_toArray, List.map_cons, List.map_nil]); first | done | rfl) ?_; rintro e_ W_ ⟨rfl, hb_⟩; refine ⟨_, rfl, hb_, fun H_ => ?_⟩; clear H; have H := H_; clear H_))
    go_ret
    exact ⟨rfl, H.below⟩
  have zb : decide ((s.back.n : Int) ≤ 100) = true := by simp at cb ⊢; omega
  cases cy : decide (s.byt.n ≤ 2000)
  · obtain rfl : false = r := by rw [← hr']; simp only [cb, cy, Bool.false_and, Bool.true_and]
    clear hr'
    have zy : decide ((s.byt.n : Int) ≤ 2000) = false := by simp at cy ⊢; omega
    go_enter Try.func8, Try.ntmps8
    go_wp2_with (first | (refine hp_guard rfl ?_) | (refine hp_box H rfl rfl rfl ?_; intro g_ W_ H_; clear H; have H := H_; clear H_) | (first | (refine hp_whole H rfl (ty := 32) rfl rfl (by repeat (first | exact .head _ | refine .tail _ ?_)) (by kernel_rfl) (by kernel_rfl) ?_)) | (refine hp_load H rfl rfl rfl (by repeat (first | exact .head _ | refine .tail _ ?_)) (by kernel_rfl) (by first | exact g_back _ | exact g_byt _ | exact g_inp _ | exact g_out _) ?_) | (refine hp_goes H rfl (f := 19) rfl Try.func19 (by kernel_rfl) rfl (right_c s t _ ⟨h.out.below H.below⟩ c0.out) (by (try simp only [List.map_toArray, List.map_cons, List.map_nil]); first | done | rfl) ?_; rintro e_ W_ ⟨rfl, hb_⟩; refine ⟨_, rfl, hb_, fun H_ => ?_⟩; clear H; have H := H_; clear H_))
    go_ret
    exact ⟨rfl, H.below⟩
  have zy : decide ((s.byt.n : Int) ≤ 2000) = true := by simp at cy ⊢; omega
  cases ci : decide (s.inp.n ≤ 500)
  · obtain rfl : false = r := by rw [← hr']; simp only [cb, cy, ci, Bool.false_and, Bool.true_and]
    clear hr'
    have zi : decide ((s.inp.n : Int) ≤ 500) = false := by simp at ci ⊢; omega
    go_enter Try.func8, Try.ntmps8
    go_wp2_with (first | (refine hp_guard rfl ?_) | (refine hp_box H rfl rfl rfl ?_; intro g_ W_ H_; clear H; have H := H_; clear H_) | (first | (refine hp_whole H rfl (ty := 32) rfl rfl (by repeat (first | exact .head _ | refine .tail _ ?_)) (by kernel_rfl) (by kernel_rfl) ?_)) | (refine hp_load H rfl rfl rfl (by repeat (first | exact .head _ | refine .tail _ ?_)) (by kernel_rfl) (by first | exact g_back _ | exact g_byt _ | exact g_inp _ | exact g_out _) ?_) | (refine hp_goes H rfl (f := 19) rfl Try.func19 (by kernel_rfl) rfl (right_c s t _ ⟨h.out.below H.below⟩ c0.out) (by (try simp only [List.map_toArray, List.map_cons, List.map_nil]); first | done | rfl) ?_; rintro e_ W_ ⟨rfl, hb_⟩; refine ⟨_, rfl, hb_, fun H_ => ?_⟩; clear H; have H := H_; clear H_))
    go_ret
    exact ⟨rfl, H.below⟩
  have zi : decide ((s.inp.n : Int) ≤ 500) = true := by simp at ci ⊢; omega
  cases co : decide (s.out.n ≤ 5000)
  · obtain rfl : false = r := by rw [← hr']; simp only [cb, cy, ci, co, Bool.false_and, Bool.true_and]
    clear hr'
    have zo : decide ((s.out.n : Int) ≤ 5000) = false := by simp at co ⊢; omega
    go_enter Try.func8, Try.ntmps8
    go_wp2_with (first | (refine hp_guard rfl ?_) | (refine hp_box H rfl rfl rfl ?_; intro g_ W_ H_; clear H; have H := H_; clear H_) | (first | (refine hp_whole H rfl (ty := 32) rfl rfl (by repeat (first | exact .head _ | refine .tail _ ?_)) (by kernel_rfl) (by kernel_rfl) ?_)) | (refine hp_load H rfl rfl rfl (by repeat (first | exact .head _ | refine .tail _ ?_)) (by kernel_rfl) (by first | exact g_back _ | exact g_byt _ | exact g_inp _ | exact g_out _) ?_) | (refine hp_goes H rfl (f := 19) rfl Try.func19 (by kernel_rfl) rfl (right_c s t _ ⟨h.out.below H.below⟩ c0.out) (by (try simp only [List.map_toArray, List.map_cons, List.map_nil]); first | done | rfl) ?_; rintro e_ W_ ⟨rfl, hb_⟩; refine ⟨_, rfl, hb_, fun H_ => ?_⟩; clear H; have H := H_; clear H_))
    go_ret
    exact ⟨rfl, H.below⟩
  have zo : decide ((s.out.n : Int) ≤ 5000) = true := by simp at co ⊢; omega
  obtain rfl : true = r := by rw [← hr']; simp only [cb, cy, ci, co, Bool.true_and]
  clear hr'
  go_enter Try.func8, Try.ntmps8
  go_wp2_with (first | (refine hp_guard rfl ?_) | (refine hp_box H rfl rfl rfl ?_; intro g_ W_ H_; clear H; have H := H_; clear H_) | (first | (refine hp_whole H rfl (ty := 32) rfl rfl (by repeat (first | exact .head _ | refine .tail _ ?_)) (by kernel_rfl) (by kernel_rfl) ?_)) | (refine hp_load H rfl rfl rfl (by repeat (first | exact .head _ | refine .tail _ ?_)) (by kernel_rfl) (by first | exact g_back _ | exact g_byt _ | exact g_inp _ | exact g_out _) ?_) | (refine hp_goes H rfl (f := 19) rfl Try.func19 (by kernel_rfl) rfl (right_c s t _ ⟨h.out.below H.below⟩ c0.out) (by (try simp only [List.map_toArray, List.map_cons, List.map_nil]); first | done | rfl) ?_; rintro e_ W_ ⟨rfl, hb_⟩; refine ⟨_, rfl, hb_, fun H_ => ?_⟩; clear H; have H := H_; clear H_))
  go_ret
  exact ⟨rfl, H.below⟩
theorem few_b {s : SV} {t : St} {w : World} (h : Rd w s t) (hf : fewF t = true) : rightF t = true ∧ s.back.n ≤ 100 ∧ s.byt.n ≤ 2000 ∧ s.inp.n ≤ 500 ∧ s.out.n ≤ 5000 := by
  unfold fewF at hf
  rw [← h.back.1, ← h.byt.1, ← h.inp.1, ← h.out.1] at hf
  simp at hf
  exact ⟨hf.1, hf.2.1, hf.2.2.1, hf.2.2.2.1, hf.2.2.2.2⟩
end Go.Proofs.Ytgaggfekgkedpaa.Cpu
end
section
/- slices.Clone of bytes; cpu.New. Own work; a template. -/
namespace Go.Proofs.Ytgaggfekgkedpaa.Cpu
open Go.RowKit Go.Proofs.YtgaggfekgkedpaaW.PrintWords Go.Proofs.YtgaggfekgkedpaaW.PrintLast Go.Proofs.YtgaggfekgkedpaaW.PrintMore Go.Proofs.Ytgaggfekgkedpaa.Hp Go.Proofs.Ytgaggfekgkedpaa.Q
set_option linter.unusedVariables false
set_option linter.unusedSimpArgs false
attribute [local go_sem] add_any
theorem lit_own (k : IntKind) (e : TypeId) (g : Nat) : Own k e g #[] 0 0 [] := ⟨rfl, rfl, Nat.le_refl _, rfl, by decide⟩
set_option maxHeartbeats 8000000 in
set_option maxRecDepth 100000 in
theorem clone_c (A : Option Addr) (n c : Nat) (l : List Int) (w : World) (h : Aside0 (RdS .u8 w A n c l)) (hb : n ≤ 140737488355328) : Calls Try.prog 20 #[.slice A n c] w fun e w' => ∃ A' c', e = .returned (.slice A' n c') ∧ w'.ownsRow w.heap.size 5 1 (.slice A' n c') n (nums .u8 l) ∧ Below w.heap.size w w' := by
  have H := Hp.nil w
  have he := fun (a : Option Addr) (n c : Nat) (w_ : World) => Go.Lib.run_eql_slice_nil (P := Try.prog) w_ 23 5 a n c 0 0 Try.underlying23
  cases A with
  | none =>
    have h0 : n = 0 := by
      rcases Nat.eq_zero_or_pos n with h0 | h0
      · exact h0
      · obtain ⟨ad, h1, _⟩ := h.out.at_ 0 (by omega) (by omega)
        cases h1
    subst h0
    go_enter Try.func20, Try.ntmps20
    go_wp2
    go_ret
    exact ⟨none, 0, rfl, ⟨by rw [nums_length]; exact h.out.1.symm, .inl ⟨rfl, rfl⟩⟩, Below.refl _ _⟩
  | some ad =>
    go_enter Try.func20, Try.ntmps20
    go_wp2_with (first | ((with_reducible refine gate_guardG ?_); refine hp_guardLG rfl rfl ?_; (with_reducible first | refine go_tt ?_ | refine go_ff ?_ | refine go_tf ?_ | refine go_ft ?_); (try simp only [Act.put, List.setIfInBounds_toArray, List.set_cons_zero, List.set_cons_succ])) | ((with_reducible refine gate_litG ?_); (refine hp_litG H rfl rfl (by first | (go_simp; done) | (go_simp; rfl)) ?_; intro g_ W_ H_; clear H; have H := H_; clear H_); (try simp only [Act.put, List.setIfInBounds_toArray, List.set_cons_zero, List.set_cons_succ])) | ((with_reducible refine gate_appG ?_); (refine hp_appG H rfl rfl Try.underlying23 (k := .u8) 1 (by kernel_rfl) (by decide) rfl (by first | exact List.Perm.refl _ | exact List.Perm.swap _ _ _) (lit_own _ _ _) rfl (h.out.below H.below) (by omega) (by first | exact Nat.zero_add _ | rfl) (by first | exact List.nil_append _ | rfl) ?_; intro g_ cur_ cap_ W_ ho_ H_; replace ho_ := Aside0.mk ho_; clear H; have H := H_; clear H_); (try simp only [Act.put, List.setIfInBounds_toArray, List.set_cons_zero, List.set_cons_succ])))
    go_ret
    exact ⟨_, _, rfl, H.own' (.head _) ho_.out, H.below⟩
section
variable {W W' W9 : World} {base e n c : Nat} {A : Option Addr} {k : IntKind} {l : List Int}
theorem own_step (h : W.ownsRow base e 1 (.slice A n c) n (nums k l)) (hm : ∀ g, base ≤ g → g < W.heap.size → W'.heap[g]? = W.heap[g]?) : W'.ownsRow base e 1 (.slice A n c) n (nums k l) := by
  obtain ⟨hl, h | ⟨g, cap, cur, hv, hg, hh, r⟩⟩ := h
  · exact ⟨hl, .inl h⟩
  · exact ⟨hl, .inr ⟨g, cap, cur, hv, hg, (hm g hg (blk_lt hh)).trans hh, r⟩⟩
theorem own_rds (h : W.ownsRow base e 1 (.slice A n c) n (nums k l)) (hm : ∀ g, base ≤ g → g < W.heap.size → W9.heap[g]? = W.heap[g]?) : RdS k W9 A n c l := by
  have h9 := own_step h hm
  obtain ⟨hl, ⟨hv, h0⟩ | ⟨g, cap, cur, hv, hg, hh, r⟩⟩ := id h9
  · cases hv
    rw [nums_length] at hl
    obtain rfl : l = [] := List.eq_nil_of_length_eq_zero (by omega)
    exact RdS.nil k W9
  · simp only [Value.slice.injEq] at hv
    obtain ⟨rfl, _, rfl⟩ := hv
    exact Hp.rdsOF hh (Own.of h9 hh)
theorem zero_nums (k : IntKind) (m : Nat) : (Builtin.zeroCells (Value.int k 0).cells m).toList = nums k (List.replicate m 0) := by
  unfold Builtin.zeroCells nums
  simp [Value.cells]
  have : (fun i : Nat => ([Value.int k 0][i % 1]?.getD default)) = fun _ => Value.int k 0 := by funext i; simp [Nat.mod_one]
  rw [this, List.map_const', List.length_range]
end
section
variable {P : Program} {ops : Array Oper} {o : Oper} {a : Act} {K : Act → World → Prop} {Q : Exit → Act → World → Prop} {E : Prop} {w0 W0 W : World} {L : List (Nat × Array Value × TypeId)}
/-- append(v, make([]T, m)...), v a row made since W0. -/
theorem hs_appZ (hgd : o.guard = none) {s x : Operand} {t ti : TypeId} (hop : o.op = .call { callee := .builtin .append, args := #[s, x], argTypes := #[t, ti] }) {e : TypeId} (ht : P.underlying t = some (.slice e)) {k ki kx : IntKind} (hti : P.underlying ti = some (.int ki)) (bytes : Nat) (hi : (P.info? e).map (fun i => (i.zero, i.size, i.bytes)) = some (some (.int k 0), 1, bytes)) (hb0 : 0 < bytes)
    {A : Option Addr} {n c m : Nat} (hs : a.eval s = .slice A n c) (hx : a.eval x = .int kx m) {l : List Int} (ho : W.ownsRow W0.heap.size e 1 (.slice A n c) n (nums k l)) (hB : Below W0.heap.size W0 W) (hb : (n + m) * bytes ≤ 140737488355328)
    (h : ∀ A' c' W', W'.ownsRow W0.heap.size e 1 (.slice A' (n + m) c') (n + m) (nums k (l ++ List.replicate m 0)) → Below W0.heap.size W0 W' → K (a.put o.dst (.slice A' (n + m) c')) W') : if Region.wanted o (yielded ops a.tmps) = true then Oper.wp P o a W K Q else E := by
  obtain ⟨i, hi1, hz, hsz, hby⟩ : ∃ i, P.info? e = some i ∧ i.zero = some (.int k 0) ∧ i.size = 1 ∧ i.bytes = bytes := by
    cases hq : P.info? e with
    | none => simp [hq] at hi
    | some i => simp [hq] at hi; exact ⟨i, rfl, hi.1, hi.2.1, hi.2.2⟩
  obtain ⟨v', W', h1, h2, h3, _⟩ := run_append_zeros (P := P) W W0.heap.size t ti o.type e i (.int k 0) 1 bytes ht hti hi1 hz hsz hby rfl (by omega) hb0 _ n _ ho kx m (by rw [zero_nums]; exact one_nums k _) hb hB.size
  rw [zero_nums, ← nums_append] at h2
  rw [if_pos (by simp [Region.wanted, hgd])]
  refine Go.Lib.wp_append_run W s x t ti hop _ _ hs hx v' W' h1 ?_
  have hB' : Below W0.heap.size W0 W' := hB.grown h3 hB.size (own_base ho)
  obtain ⟨hl, ⟨rfl, h0⟩ | ⟨g, cap, cur, rfl, hg, hh, r⟩⟩ := id h2
  · have := h none 0 W' (by rw [h0] at h2 ⊢; exact h2) hB'
    rwa [h0] at this
  · exact h _ _ W' h2 hB'
theorem hs_storeF (H : Hp w0 W L) (hgd : o.guard = none) {ty : TypeId} {x y : Operand} (ho : o.op = .store ty x y) (hd : o.dst = none) {g off : Nat} (hx : a.eval x = .pointer (some ⟨g, off, none⟩)) {cs : Array Value} {t : TypeId} {n : Nat} (hn : L[n]? = some (g, cs, t))
    {v : Value} (hy : a.eval y = v) (hi : (P.info? ty).map (·.size) = some v.cells.size) (hfit : Nat.ble (off + v.cells.size) cs.size = true) (h1 : v.cells.toList.all (·.oneCell') = true) {cs' : Array Value} (hc : putSeg cs off v.cells.toList = cs')
    {L' : List (Nat × Array Value × TypeId)} (hL : setL L n cs' = L')
    (h : ∀ W', Hp w0 W' L' → (∀ b, b ≠ g → W'.heap[b]? = W.heap[b]?) → W'.heap.size = W.heap.size → K a W') : if Region.wanted o (yielded ops a.tmps) = true then Oper.wp P o a W K Q else E := by
  subst hc hL hy
  have hm : (g, cs, t) ∈ L := (List.getElem?_eq_some_iff.1 hn).2 ▸ List.getElem_mem _
  have hw : Region.wanted o (yielded ops a.tmps) = true := by simp [Region.wanted, hgd]
  rw [if_pos hw]
  unfold Oper.wp execOp
  simp only [ho, hx, Instr.storeAt, Instr.sureAddr, Sem.run_bind, Sem.run_pure, Result.andThen_ok, run_sto W g off ty t cs _ (H.heap hm) hi (Nat.le_of_ble_eq_true hfit) h1]
  show K (a.put o.dst undef) _
  rw [hd]
  exact h _ (H.row n hn _) (fun b hb => setRow_other _ _ _ _ hb) (by simp)
end
def newT (entry write : Int) (data : List Int) (m : Nat) (inp : List Int) : St := ⟨entry, List.replicate 16 0, [], write, data ++ List.replicate m 0, inp, [], false, 0, 0⟩
/-- A new state: it reads as T in whatever world that has the blocks made since. -/
def NewIs (w : World) (T : St) (e : Ending) (w' : World) : Prop := ∃ s : SV, e = .returned (.agg s.c) ∧ (∀ W9, (∀ b, w.heap.size ≤ b → b < w'.heap.size → W9.heap[b]? = w'.heap[b]?) → Rd W9 s T) ∧ Below w.heap.size w w'
set_option maxHeartbeats 8000000 in
set_option maxRecDepth 100000 in
theorem new_c (Ac : Option Addr) (nc cc : Nat) (entry : Int) (Ad : Option Addr) (nd cd : Nat) (write : Int) (m : Nat) (A : Option Addr) (n c : Nat) (ld l : List Int) (w : World) (hd : Aside0 (RdS .u8 w Ad nd cd ld)) (hi : Aside0 (RdS .u8 w A n c l)) (hb1 : nd + m ≤ 140737488355328) (hb2 : n ≤ 140737488355328) :
    Calls Try.prog 9 #[.agg #[.slice Ac nc cc, .int .i64 entry, .slice Ad nd cd, .int .i64 write, .int .i64 (m : Int)], .slice A n c] w (NewIs w (newT entry write ld m l)) := by
  have H := Hp.nil w
  go_enter Try.func9, Try.ntmps9
  go_wp2_with (first | ((with_reducible refine gate_guardG ?_); refine hp_guardLG rfl rfl ?_; (with_reducible first | refine go_tt ?_ | refine go_ff ?_ | refine go_tf ?_ | refine go_ft ?_); (try simp only [Act.put, List.setIfInBounds_toArray, List.set_cons_zero, List.set_cons_succ])) | ((with_reducible refine gate_dst (N := 2) rfl ?_); refine hp_box H rfl rfl rfl ?_; intro gm W_ H_; clear H; have H := H_; clear H_) | ((with_reducible refine gate_dst (N := 4) rfl ?_); refine hp_alloc H rfl rfl (fun w_ => by go_simp; rfl) ?_; intro gr W_ H_; clear H; have H := H_; clear H_))
  have Hx : ∃ x : Array Value, Hp w _ [(gr, x, 32), (gm, #[.slice Ac nc cc, .int .i64 entry, .slice Ad nd cd, .int .i64 write, .int .i64 (m : Int)], 25)] ∧ x.size = 25 := ⟨_, H, rfl⟩
  clear H

  refine wp_region_held_drew (S := fun W' => ∃ x : Array Value, Hp w W' [(gr, x, 32), (gm, #[.slice Ac nc cc, .int .i64 entry, .slice Ad nd cd, .int .i64 write, .int .i64 (m : Int)], 25)] ∧ x.size = 25) (by kernel_rfl) (Hx.imp fun _ H_ => ⟨H_.1.drew, H_.2⟩) (fun hHeld => ?_)
  change wpAnyH _ _ _ _ _ 7 (Array.replicate 7 false) _ _
  clear Hx
  (refine hk_take (i := 0) (v := ?_) rfl (by kernel_rfl) (by kernel_rfl) (by kernel_rfl) (fun _ _ _ h => h) (Or.inl ⟨by rfl, ?_⟩) hHeld ?_; rotate_left 1; (intro w_ hSw_; go_simp; with_reducible rfl); (try simp only [Act.put, List.setIfInBounds_toArray, List.set_cons_zero, List.set_cons_succ]))
  (refine hk_take (i := 1) rfl (by kernel_rfl) (by kernel_rfl) (by kernel_rfl) (fun _ _ _ h => h) (yl_load rfl rfl rfl (fun w_ ⟨x_, H_, _⟩ => H_.heap (by repeat (first | exact .head _ | refine .tail _ ?_))) (by kernel_rfl) (show _ = some (Value.slice Ad nd cd) from rfl)) hHeld ?_; (try simp only [Act.put, List.setIfInBounds_toArray, List.set_cons_zero, List.set_cons_succ]))
  (refine hk_take (i := 3) (v := ?_) rfl (by kernel_rfl) (by kernel_rfl) (by kernel_rfl) (fun _ _ _ h => h) (Or.inl ⟨by rfl, ?_⟩) hHeld ?_; rotate_left 1; (intro w_ hSw_; go_simp; with_reducible rfl); (try simp only [Act.put, List.setIfInBounds_toArray, List.set_cons_zero, List.set_cons_succ]))
  (refine hk_take (i := 4) rfl (by kernel_rfl) (by kernel_rfl) (by kernel_rfl) (fun _ _ _ h => h) (yl_load rfl rfl rfl (fun w_ ⟨x_, H_, _⟩ => H_.heap (by repeat (first | exact .head _ | refine .tail _ ?_))) (by kernel_rfl) (show _ = some (Value.int .i64 (m : Int)) from rfl)) hHeld ?_; (try simp only [Act.put, List.setIfInBounds_toArray, List.set_cons_zero, List.set_cons_succ]))
  (refine hk_op (i := 2) rfl (by kernel_rfl) (fun K hK => ?_))
  have hB0 := Aside0.mk (hHeld.elim fun _ H_ => H_.1.below)
  have hG0 := Aside0.mk (hHeld.elim fun _ H_ => blk_lt (H_.1.heap (.head _)))
  refine hs_goes0 rfl (f := 20) rfl Try.func20 (by kernel_rfl) rfl (clone_c Ad nd cd ld _ ⟨hd.out.below hB0.out⟩ (by omega)) (by (try simp only [List.map_toArray, List.map_cons, List.map_nil]); first | done | rfl) ?_
  rintro e_ W2_ ⟨A1, c1, rfl, ho1, hb_⟩
  refine ⟨_, rfl, ?_⟩
  replace ho1 := Aside0.mk ho1
  have hHeld0 := Aside0.mk hHeld
  refine hK.out _ _ (hHeld.imp fun _ H_ => ⟨H_.1.call hb_, H_.2⟩) (fun hHeld => ?_)
  clear hK K
  (try simp only [Act.put, List.setIfInBounds_toArray, List.set_cons_zero, List.set_cons_succ])
  (refine hk_op (i := 5) rfl (by kernel_rfl) (fun K hK => ?_))
  refine hs_appZ rfl rfl Try.underlying23 (k := .u8) Try.underlying3 1 (by kernel_rfl) (by decide) rfl rfl ho1.out hb_ (by omega) ?_
  intro A2 c2 W3_ ho2 hb2_
  replace ho2 := Aside0.mk ho2
  refine hK.out _ _ (hHeld0.out.imp fun _ H_ => ⟨H_.1.call hb2_, H_.2⟩) (fun hHeld => ?_)
  clear hK K ho1 hb_
  (try simp only [Act.put, List.setIfInBounds_toArray, List.set_cons_zero, List.set_cons_succ])
  (refine hk_take (i := 6) (v := ?_) rfl (by kernel_rfl) (by kernel_rfl) (by kernel_rfl) (fun _ _ _ h => h) (Or.inl ⟨by rfl, ?_⟩) hHeld ?_; rotate_left 1; (intro w_ hSw_; go_simp; with_reducible rfl); (try simp only [Act.put, List.setIfInBounds_toArray, List.set_cons_zero, List.set_cons_succ]))
  (refine wpAnyH_done (by kernel_rfl) ?_ _)
  go_wp2_with (first | ((with_reducible refine gate_guardG ?_); refine hp_guardLG rfl rfl ?_; (with_reducible first | refine go_tt ?_ | refine go_ff ?_ | refine go_tf ?_ | refine go_ft ?_); (try simp only [Act.put, List.setIfInBounds_toArray, List.set_cons_zero, List.set_cons_succ])))
  refine wp_region_held_drew (S := fun W' => ∃ x : Array Value, Hp w W' [(gr, x, 32), (gm, #[.slice Ac nc cc, .int .i64 entry, .slice Ad nd cd, .int .i64 write, .int .i64 (m : Int)], 25)] ∧ x.size = 25) (by kernel_rfl) (hHeld.imp fun _ H_ => ⟨H_.1.drew, H_.2⟩) (fun hHeld => ?_)
  change wpAnyH _ _ _ _ _ 10 (Array.replicate 10 false) _ _
  (refine hk_take (i := 0) (v := ?_) rfl (by kernel_rfl) (by kernel_rfl) (by kernel_rfl) (fun _ _ _ h => h) (Or.inl ⟨by rfl, ?_⟩) hHeld ?_; rotate_left 1; (intro w_ hSw_; go_simp; with_reducible rfl); (try simp only [Act.put, List.setIfInBounds_toArray, List.set_cons_zero, List.set_cons_succ]))
  (refine hk_take (i := 1) rfl (by kernel_rfl) (by kernel_rfl) (by kernel_rfl) (fun _ _ _ h => h) (yl_load rfl rfl rfl (fun w_ ⟨x_, H_, _⟩ => H_.heap (by repeat (first | exact .head _ | refine .tail _ ?_))) (by kernel_rfl) (show _ = some (Value.int .i64 entry) from rfl)) hHeld ?_; (try simp only [Act.put, List.setIfInBounds_toArray, List.set_cons_zero, List.set_cons_succ]))
  (refine hk_take (i := 2) (v := ?_) rfl (by kernel_rfl) (by kernel_rfl) (by kernel_rfl) (fun _ _ _ h => h) (Or.inl ⟨by rfl, ?_⟩) hHeld ?_; rotate_left 1; (intro w_ hSw_; go_simp; with_reducible rfl); (try simp only [Act.put, List.setIfInBounds_toArray, List.set_cons_zero, List.set_cons_succ]))
  (refine hk_take (i := 3) rfl (by kernel_rfl) (by kernel_rfl) (by kernel_rfl) (fun _ _ _ h => h) (yl_load rfl rfl rfl (fun w_ ⟨x_, H_, _⟩ => H_.heap (by repeat (first | exact .head _ | refine .tail _ ?_))) (by kernel_rfl) (show _ = some (Value.int .i64 write) from rfl)) hHeld ?_; (try simp only [Act.put, List.setIfInBounds_toArray, List.set_cons_zero, List.set_cons_succ]))
  (refine hk_take (i := 4) (v := ?_) rfl (by kernel_rfl) (by kernel_rfl) (by kernel_rfl) (fun _ _ _ h => h) (Or.inl ⟨by rfl, ?_⟩) hHeld ?_; rotate_left 1; (intro w_ hSw_; go_simp; with_reducible rfl); (try simp only [Act.put, List.setIfInBounds_toArray, List.set_cons_zero, List.set_cons_succ])); (refine hk_take (i := 5) (v := ?_) rfl (by kernel_rfl) (by kernel_rfl) (by kernel_rfl) (fun _ _ _ h => h) (Or.inl ⟨by rfl, ?_⟩) hHeld ?_; rotate_left 1; (intro w_ hSw_; go_simp; with_reducible rfl); (try simp only [Act.put, List.setIfInBounds_toArray, List.set_cons_zero, List.set_cons_succ])); (refine hk_take (i := 6) (v := ?_) rfl (by kernel_rfl) (by kernel_rfl) (by kernel_rfl) (fun _ _ _ h => h) (Or.inl ⟨by rfl, ?_⟩) hHeld ?_; rotate_left 1; (intro w_ hSw_; go_simp; with_reducible rfl); (try simp only [Act.put, List.setIfInBounds_toArray, List.set_cons_zero, List.set_cons_succ]))
  (refine hk_op (i := 7) rfl (by kernel_rfl) (fun K hK => ?_))
  have hB1 := Aside0.mk (hHeld.elim fun _ H_ => H_.1.below)
  refine hs_goes0 rfl (f := 20) rfl Try.func20 (by kernel_rfl) rfl (clone_c A n c l _ ⟨hi.out.below hB1.out⟩ hb2) (by (try simp only [List.map_toArray, List.map_cons, List.map_nil]); first | done | rfl) ?_
  rintro e_ W5_ ⟨A3, c3, rfl, ho3, hb3_⟩
  refine ⟨_, rfl, ?_⟩
  replace ho3 := Aside0.mk ho3
  replace hb3_ := Aside0.mk hb3_
  replace hb2_ := Aside0.mk hb2_
  refine hK.out _ _ (hHeld.imp fun _ H_ => ⟨H_.1.call hb3_.out, H_.2⟩) (fun hHeld => ?_)
  clear hK K
  (try simp only [Act.put, List.setIfInBounds_toArray, List.set_cons_zero, List.set_cons_succ])
  (refine hk_take (i := 8) (v := ?_) rfl (by kernel_rfl) (by kernel_rfl) (by kernel_rfl) (fun _ _ _ h => h) (Or.inl ⟨by rfl, ?_⟩) hHeld ?_; rotate_left 1; (intro w_ hSw_; go_simp; with_reducible rfl); (try simp only [Act.put, List.setIfInBounds_toArray, List.set_cons_zero, List.set_cons_succ]))
  obtain ⟨x_, H, hz_⟩ := hHeld
  (refine hk_op (i := 9) rfl (by kernel_rfl) (fun K hK => ?_))
  refine hs_storeF H rfl rfl rfl rfl (n := 0) rfl (v := .agg (SV.c ⟨entry, List.replicate 16 0, ⟨none, 0, 0⟩, write, ⟨A2, nd + m, c2⟩, ⟨A3, n, c3⟩, ⟨none, 0, 0⟩, false, 0, 0⟩)) rfl (by kernel_rfl) (by rw [hz_]; rfl) (by rfl) (sv_all _ hz_) rfl ?_
  intro W6_ H hf_ hs_
  replace hf_ := Aside0.mk hf_
  replace hs_ := Aside0.mk hs_
  refine hK.out _ _ ⟨_, H, rfl⟩ (fun hHeld => ?_)
  clear hK K hHeld
  (try simp only [Act.put, List.setIfInBounds_toArray, List.set_cons_zero, List.set_cons_succ])
  (refine wpAnyH_done (by kernel_rfl) ?_ _)
  go_wp2_with (first | ((with_reducible refine gate_guardG ?_); refine hp_guardLG rfl rfl ?_; (with_reducible first | refine go_tt ?_ | refine go_ff ?_ | refine go_tf ?_ | refine go_ft ?_); (try simp only [Act.put, List.setIfInBounds_toArray, List.set_cons_zero, List.set_cons_succ])))
  have z0 := hB0.out.size
  have z2 := hb2_.out.size
  have z3 := hb3_.out.size
  exact (bodyPost_ret (results_cell_row rfl _ _ _ 32 _ (0, 0) _ rfl (H.heap (by repeat (first | exact .head _ | refine .tail _ ?_))) Try.underlying32 rfl (by kernel_rfl)) rfl ⟨⟨entry, List.replicate 16 0, ⟨none, 0, 0⟩, write, ⟨A2, nd + m, c2⟩, ⟨A3, n, c3⟩, ⟨none, 0, 0⟩, false, 0, 0⟩, rfl, fun W9_ hW9_ => ⟨rfl, rfl, rfl, RdS.nil _ _, rfl,
    own_rds ho2.out (fun g h1 h2 => by
      have z4 := hG0.out
      have e1 := hW9_ g (by omega) (by rw [hs_.out]; exact Nat.lt_of_lt_of_le h2 z3)
      have e2 := hf_.out g (by omega)
      have e3 := hb3_.out.block g h2
      exact (e1.trans e2).trans e3),
    own_rds ho3.out (fun g h1 h2 => by
      have z4 := hG0.out
      have z5 : W3_.heap.size ≤ g := h1
      exact (hW9_ g (by omega) (by rw [hs_.out]; exact h2)).trans (hf_.out g (by omega))),
    RdS.nil _ _, rfl, rfl, rfl⟩, H.below⟩)
end Go.Proofs.Ytgaggfekgkedpaa.Cpu
end
