/- The law RunTraces: its contract. Own work; a template, printed by gen_traces.py. -/
import Derived.Test.YtcagccodmmcnfaaMxH
import Derived.Test.YtcagccodmmcnfaaRunM
import Derived.Test.YtcagccodmmcnfaaQ39
namespace Go.Proofs.Ytcagccodmmcnfaa.Cpu
open Go.RowKit Go.Proofs.YtcagccodmmcnfaaW.PrintWords Go.Proofs.YtcagccodmmcnfaaW.PrintLast Go.Proofs.YtcagccodmmcnfaaW.PrintMore Go.Proofs.Ytcagccodmmcnfaa.Hp Go.Proofs.Ytcagccodmmcnfaa.Q
set_option linter.unusedVariables false
set_option linter.unusedSimpArgs false
attribute [local go_sem] add_any
theorem le_dm {a b mm : Nat} {p : Int} {P1 P2 P3 P4 : Prop} (h : P1 ∧ P2 ∧ P3 ∧ P4 ∧ 0 ≤ p ∧ p ≤ 500 ∧ a ≤ 500 ∧ b ≤ 500) (hm : mm ≤ 500) : a + mm ≤ 1099511627776 := by have := h; omega
theorem step_inp (t : St) (ws : List Int) : (t.step ws).inp.length ≤ t.inp.length := by
  unfold St.step
  split
  · exact Nat.le_refl _
  split
  · exact Nat.le_refl _
  cases hg : Code.gW (rd ws t.at_) with
  | none => exact Nat.le_refl _
  | some q =>
    obtain ⟨op, a, b, c, i⟩ := q
    show (t.does ⟨op, a, b, c, i⟩).inp.length ≤ _
    unfold St.does
    split
    · split <;> exact Nat.le_refl _
    split
    · unfold St.effect
      split
      · unfold St.load; split <;> exact Nat.le_refl _
      split
      · unfold St.load; split <;> exact Nat.le_refl _
      split
      · unfold St.save; split <;> exact Nat.le_refl _
      split
      · unfold St.save; split <;> exact Nat.le_refl _
      split
      · unfold St.inn
        cases hx : t.inp with
        | nil => show t.inp.length ≤ _; rw [hx]; exact Nat.le_refl _
        | cons y l => exact Nat.le_succ _
      · exact Nat.le_refl _
    split
    · unfold St.ends
      split
      · exact Nat.le_refl _
      split
      · exact Nat.le_refl _
      split <;> exact Nat.le_refl _
    · exact Nat.le_refl _
theorem StG.below {g r : Nat} {w W W' : World} {s0 s : SV} {t0 t : St} (h : StG g r w W s0 t0 s t) (hb : Below W.heap.size W W') : StG g r w W' s0 t0 s t := fun W9 hm h0 =>
  h W9 (fun b h1 h2 h3 h4 => (hm b h1 h2 h3 (Nat.lt_of_lt_of_le h4 hb.size)).trans (hb.block b h4)) h0
def InOk (t : St) : Prop := Wf t ∧ t.inp.length ≤ 1099511627776
theorem InOk.step {t : St} {ws : List Int} (h : InOk t) (hws : ∀ x ∈ ws, U32 x) : InOk (t.step ws) := ⟨step_wf t ws hws h.1, Nat.le_trans (step_inp t ws) h.2⟩
set_option maxHeartbeats 40000000 in
set_option maxRecDepth 100000 in
theorem traces_turned (mv : IM) (lc ld : List Int) (A : Option Addr) (n c : Nat) (l : List Int) (q : Int) (w : World) (hc : Aside0 (RdS .u32 w mv.code.a mv.code.n mv.code.c lc)) (hd : Aside0 (RdS .u8 w mv.data.a mv.data.n mv.data.c ld)) (b1 b2 b3 : Bool) (hf : Aside0 (fineF mv = b1)) (h2 : decide ((n : Int) > 200) = b2) (h2' : decide (200 < n) = b2) (h3 : decide (q > 2000) = b3) (h3' : decide (2000 < q) = b3) (hq : (!b1 || b2 || b3) = true) :
    Calls Try.prog 3 #[.agg mv.c, .slice A n c, .int .i64 q] w fun e w' => e = .returned (.bool true) ∧ Below w.heap.size w w' := by
  have H := Hp.nil w
  cases b1 <;> cases b2 <;> cases b3 <;> first | (exfalso; revert hq; decide) | skip
  all_goals clear hq
  all_goals go_enter Try.func3, Try.ntmps3
  all_goals go_wp2_with ((first | ((with_reducible refine gate_guardG ?_); refine hp_guardLG rfl rfl ?_; (with_reducible first | refine go_tt ?_ | refine go_ff ?_ | refine go_tf ?_ | refine go_ft ?_)) | ((with_reducible refine gate_boxG ?_); (refine hp_boxG H rfl rfl rfl ?_; intro g_ W_ H_)) | ((with_reducible refine gate_loadG ?_); (first | (refine hp_wholeG H rfl (ty := 25) rfl rfl (by repeat (first | exact .head _ | refine .tail _ ?_)) (by kernel_rfl) (by kernel_rfl) ?_))) | ((with_reducible refine gate_fnG ?_); (refine hp_goesG H rfl (f := 8) rfl Try.func8 (by kernel_rfl) rfl (awake7_c _) (by (try simp only [List.map_toArray, List.map_cons, List.map_nil]); first | done | rfl) ?_; rintro e_ W_ ⟨rfl, hb_⟩; refine ⟨_, rfl, hb_, fun H_ => ?_⟩)) | ((with_reducible refine gate_fnG ?_); (refine hp_goesG H rfl (f := 9) rfl Try.func9 (by kernel_rfl) rfl (fine_c mv lc ld _ (hc.out.below H.below) (hd.out.below H.below) hf.out) (by (try simp only [List.map_toArray, List.map_cons, List.map_nil]); first | done | rfl) ?_; rintro e_ W_ ⟨rfl, hb_⟩; refine ⟨_, rfl, hb_, fun H_ => ?_⟩))); (try (clear H; have H := H_; clear H_)); (try simp only [Act.put, List.setIfInBounds_toArray, List.set_cons_zero, List.set_cons_succ]))
  all_goals go_ret
  all_goals exact ⟨rfl, H.below⟩
set_option maxHeartbeats 40000000 in
set_option maxRecDepth 100000 in
theorem traces_main (mv : IM) (lc ld : List Int) (A : Option Addr) (n c : Nat) (l : List Int) (q : Int) (kf : Nat) (w : World) (hc : Aside0 (RdS .u32 w mv.code.a mv.code.n mv.code.c lc)) (hcu : Aside0 (∀ x ∈ lc, U32 x)) (hd : Aside0 (RdS .u8 w mv.data.a mv.data.n mv.data.c ld)) (hi : Aside0 (RdS .u8 w A n c l)) (hiu : Aside0 (∀ x ∈ l, 0 ≤ x ∧ x ≤ 255)) (hf : Aside0 (fineF mv = true)) (h2 : decide ((n : Int) > 200) = false) (h2' : decide (200 < n) = false) (h3 : decide (q > 2000) = false) (h3' : decide (2000 < q) = false) (hkq : Aside0 ((if q < 0 then 0 else q) = (kf : Int))) (hk2 : Aside0 (kf ≤ 2000)) (hfu : Aside0 (splicelaw07_fuel.f q = some (kf : Int))) (hil : Aside0 (l.length ≤ 1099511627776)) (hdu : Aside0 (∀ x ∈ ld, B8 x)) :
    Calls Try.prog 3 #[.agg mv.c, .slice A n c, .int .i64 q] w fun e w' => e = .returned (.bool true) ∧ Below w.heap.size w w' := by
  have hfb := Aside0.mk (fine_b hf.out)
  obtain ⟨mm, hmm⟩ : ∃ mm : Nat, mv.more = (mm : Int) := ⟨mv.more.toNat, by have := hfb.out; omega⟩
  have hm5 : Aside0 (mm ≤ 500) := ⟨by have := hfb.out; omega⟩
  have hn2 : Aside0 (n ≤ 200) := ⟨by simpa using h2'⟩
  have hok0 : Aside0 (RunOk (newT mv.entry mv.write ld mm l) kf) := ⟨⟨rfl, by show (ld ++ List.replicate mm 0).length ≤ _; rw [List.length_append, List.length_replicate]; have h1 := le_dm hfb.out hm5.out; have h2 := hd.out.1; omega, by show 0 + kf ≤ _; have := hk2.out; omega, hiu.out⟩⟩
  have hwf0 : Aside0 (InOk (newT mv.entry mv.write ld mm l)) := ⟨⟨⟨fun x hx => by rw [List.eq_of_mem_replicate hx]; exact ⟨by decide, by decide⟩, fun x hx => by
    rcases List.mem_append.1 hx with hx | hx
    · exact hdu.out x hx
    · rw [List.eq_of_mem_replicate hx]; exact ⟨by decide, by decide⟩, hiu.out⟩, hil.out⟩⟩
  have hw : Aside0 (Below w.heap.size w w) := ⟨Below.refl _ _⟩
  have H := Hp.nil w
  go_enter Try.func3, Try.ntmps3
  go_wp2_with ((first | ((with_reducible refine gate_guardG ?_); refine hp_guardLG rfl rfl ?_; (with_reducible first | refine go_tt ?_ | refine go_ff ?_ | refine go_tf ?_ | refine go_ft ?_)) | ((with_reducible refine gate_dst (N := 3) rfl ?_); refine hp_box H rfl rfl rfl ?_; intro t3 W_ H_; clear H; have H := H_; clear H_) | ((with_reducible refine gate_dst (N := 10) rfl ?_); ((with_reducible refine gate_fnG ?_); refine hp_goesG H rfl (f := 8) rfl Try.func8 (by kernel_rfl) rfl (awake7_c _) (by (try simp only [List.map_toArray, List.map_cons, List.map_nil]); first | done | rfl) ?_; rintro e_ W_ ⟨rfl, hb_⟩; refine ⟨_, rfl, hb_, fun H_ => ?_⟩)) | ((with_reducible refine gate_dst (N := 13) rfl ?_); ((with_reducible refine gate_loadG ?_); (first | (refine hp_wholeG H rfl (ty := 25) rfl rfl (by repeat (first | exact .head _ | refine .tail _ ?_)) (by kernel_rfl) (by kernel_rfl) ?_)))) | ((with_reducible refine gate_dst (N := 14) rfl ?_); ((with_reducible refine gate_fnG ?_); refine hp_goesG H rfl (f := 9) rfl Try.func9 (by kernel_rfl) rfl (fine_c mv lc ld _ (hc.out.below (below_step hw.out H.below)) (hd.out.below (below_step hw.out H.below)) hf.out) (by (try simp only [List.map_toArray, List.map_cons, List.map_nil]); first | done | rfl) ?_; rintro e_ W_ ⟨rfl, hb_⟩; refine ⟨_, rfl, hb_, fun H_ => ?_⟩)) | ((with_reducible refine gate_dst (N := 27) rfl ?_); ((with_reducible refine gate_loadG ?_); (first | (refine hp_wholeG H rfl (ty := 25) rfl rfl (by repeat (first | exact .head _ | refine .tail _ ?_)) (by kernel_rfl) (by kernel_rfl) ?_)))) | ((with_reducible refine gate_dst (N := 30) rfl ?_); ((with_reducible refine gate_fnG ?_); refine hp_goesG H rfl (f := 10) rfl Try.func10 (by kernel_rfl) rfl (do_c mv mm hmm A n c lc ld l q kf _ ⟨hc.out.below (below_step hw.out H.below)⟩ hcu ⟨hd.out.below (below_step hw.out H.below)⟩ ⟨hi.out.below (below_step hw.out H.below)⟩ hiu ⟨le_dm hfb.out hm5.out⟩ ⟨Nat.le_trans hn2.out (by decide)⟩ hkq.out (Nat.le_trans hk2.out (by decide)) ⟨fun k => out_small _ _ _ _ _ _ k⟩) (by (try simp only [List.map_toArray, List.map_cons, List.map_nil]); first | done | rfl) ?_; rintro e_ W_ ⟨r1, rfl, hr1, hb_⟩; refine ⟨_, rfl, hb_, fun H_ => ?_⟩; have f3 := Aside0.mk (H_.heap (g := t3) (cs := mv.c) (t := 25) (by repeat (first | exact .head _ | refine .tail _ ?_))); have hR1 : Aside0 (∀ W9, Below W_.heap.size W_ W9 → RdT W9 r1 (runF lc (newT mv.entry mv.write ld mm l) kf)) := ⟨fun W9 h9 => hr1 W9 (fun b _ h2 => h9.block b h2)⟩; replace hw := Aside0.mk (below_step hw.out H_.below); clear H H_ hr1; have H := Hp.nil W_)) | ((with_reducible refine gate_dst (N := 7) rfl ?_); refine hp_alloc H rfl rfl (fun w_ => by go_simp; rfl) ?_; intro t7 W_ H_; clear H; have H := H_; clear H_) | ((with_reducible refine gate_dst (N := 31) rfl ?_); ((with_reducible refine gate_loadG ?_); refine hp_wholeXG (ty := 25) rfl rfl rfl ((H.below.block _ (blk_lt f3.out)).trans f3.out) (by kernel_rfl) (by kernel_rfl) ?_)) | ((with_reducible refine gate_dst (N := 33) rfl ?_); ((with_reducible refine gate_fnG ?_); refine hp_goesG H rfl (f := 11) rfl Try.func11 (by kernel_rfl) rfl (rnew_c mv mm hmm A n c ld l _ ⟨hd.out.below (below_step hw.out H.below)⟩ ⟨hi.out.below (below_step hw.out H.below)⟩ ⟨Nat.le_trans (le_dm hfb.out hm5.out) (by decide)⟩ ⟨Nat.le_trans hn2.out (by decide)⟩) (by (try simp only [List.map_toArray, List.map_cons, List.map_nil]); first | done | rfl) ?_; rintro e_ W_ ⟨s0, rfl, hr0, hb_⟩; refine ⟨_, rfl, hb_, fun H_ => ?_⟩; replace f3 := Aside0.mk ((H_.below.block _ (blk_lt f3.out)).trans f3.out); have f7 := Aside0.mk (H_.heap (g := t7) (cs := r1.c) (t := 30) (by repeat (first | exact .head _ | refine .tail _ ?_))); replace hR1 := Aside0.mk (fun (W9 : World) (h9 : Below W_.heap.size W_ W9) => hR1.out W9 (below_step H_.below h9)); have hS0 : Aside0 (Rd W_ s0 (newT mv.entry mv.write ld mm l)) := ⟨hr0⟩; replace hw := Aside0.mk (below_step hw.out H_.below); clear H H_ hr0; rename World => Wn; have H := Hp.nil Wn)) | ((with_reducible refine gate_dst (N := 8) rfl ?_); refine hp_alloc H rfl rfl (fun w_ => by go_simp; rfl) ?_; intro t8 W_ H_; clear H; have H := H_; clear H_) | ((with_reducible refine gate_storeG ?_); ((first | (refine hp_store0G H rfl rfl rfl rfl rfl (by kernel_rfl) (by first | rfl | exact fit_.out) (by rfl) (by first | exact sv_all _ rfl | exact tv_all _ rfl) ?_)); intro W_ H_))); (try (clear H; have H := H_; clear H_)); (try simp only [Act.put, List.setIfInBounds_toArray, List.set_cons_zero, List.set_cons_succ]))
  go_loopg [9] kf (fun kq v9 w' => ∃ (i : Nat) (s1 : SV) (t1 : St), v9 = .int .i64 (i : Int) ∧ Aside0 (i + kq = kf ∧ (fromF lc kf (newT mv.entry mv.write ld mm l)).1 = (fromF lc kq t1).1 ∧ (fromF lc kf (newT mv.entry mv.write ld mm l)).2 = i + (fromF lc kq t1).2) ∧ Aside0 (RunOk t1 kq) ∧ Aside0 (InOk t1) ∧ Aside0 (StG t8 t8 Wn w' s0 (newT mv.entry mv.write ld mm l) s1 t1) ∧ Hp Wn w' [(t8, s1.c, 37)])
  case atStart => exact ⟨0, s0, (newT mv.entry mv.write ld mm l), rfl, ⟨Nat.zero_add _, rfl, (Nat.zero_add _).symm⟩, hok0, hwf0, ⟨StG.start⟩, H⟩
  case round =>
    clear H
    obtain ⟨i, s1, t1, rfl, hik, hok, hwf, hst, H⟩ := hrel
    have fin : Aside0 ((fromF lc kf (newT mv.entry mv.write ld mm l)).1 = t1 ∧ (fromF lc kf (newT mv.entry mv.write ld mm l)).2 = i → runF lc (newT mv.entry mv.write ld mm l) kf = ⟨t1.out, t1.en, t1.code, t1.flt, t1.byt, (i : Int)⟩) := ⟨fun ⟨h1, h2⟩ => by unfold runF; rw [h1, h2]⟩
    by_cases hlt : i < kf
    · have d0 : decide (i < kf) = true := decide_eq_true hlt
      have d1 : decide ((i : Int) < (kf : Int)) = true := decide_eq_true (by omega)
      obtain ⟨qk, hqk⟩ : ∃ qk, gk = qk + 1 := ⟨gk - 1, by have := hik.out.1; omega⟩
      subst hqk
      cases hen : t1.en
      · have qe : Aside0 (s1.c[22]? = some (.bool false)) := ⟨by rw [g_en, (hst.out.now hS0.out H.below).en, hen]⟩
        replace hen := Aside0.mk hen
        clear fin
        have hw1 := Aside0.mk (w64n (i := i) (by have := hk2.out; omega))
        go_wp2_with ((first | ((with_reducible refine gate_guardG ?_); refine hp_guardLG rfl rfl ?_; (with_reducible first | refine go_tt ?_ | refine go_ff ?_ | refine go_tf ?_ | refine go_ft ?_)) | ((with_reducible refine gate_dst (N := 36) rfl ?_); ((with_reducible refine gate_fnG ?_); refine hp_goesG H rfl (f := 12) rfl Try.func12 (by kernel_rfl) rfl (splicelaw07_fuel.calls _ _ _ hfu.out) (by (try simp only [List.map_toArray, List.map_cons, List.map_nil]); first | done | rfl) ?_; rintro e_ W_ ⟨rfl, hb_⟩; refine ⟨_, rfl, hb_.below, fun H_ => ?_⟩; replace hst := Aside0.mk (hst.out.below hb_.below))) | ((with_reducible refine gate_dst (N := 40) rfl ?_); ((with_reducible refine gate_loadG ?_); (refine hp_loadG H rfl rfl rfl (by repeat (first | exact .head _ | refine .tail _ ?_)) (by kernel_rfl) (by first | exact qe.out) ?_))) | ((with_reducible refine gate_dst (N := 44) rfl ?_); ((with_reducible refine gate_loadG ?_); refine hp_loadXG rfl rfl rfl ((H.below.block _ (blk_lt f3.out)).trans f3.out) (by kernel_rfl) (by exact m_code mv) ?_)) | ((with_reducible refine gate_dst (N := 45) rfl ?_); ((with_reducible refine gate_loadG ?_); (first | (refine hp_wholeG H rfl (ty := 37) rfl rfl (by repeat (first | exact .head _ | refine .tail _ ?_)) (by kernel_rfl) (by kernel_rfl) ?_)))) | ((with_reducible refine gate_dst (N := 46) rfl ?_); ((with_reducible refine gate_fnG ?_); have hgs0 := Aside0.mk (blk_lt (H.heap (g := t8) (cs := s1.c) (t := 37) (by repeat (first | exact .head _ | refine .tail _ ?_)))); have hbw := Aside0.mk H.below.size; refine hp_goesG H rfl (f := 13) rfl Try.func13 (by kernel_rfl) rfl (step6_c s1 t1 mv.code.a mv.code.n mv.code.c lc _ (hst.out.now hS0.out H.below) (hc.out.below (below_step hw.out H.below)) hcu.out hwf.out.1 hok.out.r0 hok.out.byt (by have := hok.out.back; omega) hwf.out.2) (by (try simp only [List.map_toArray, List.map_cons, List.map_nil]); first | done | rfl) ?_; rintro e_ W_ ⟨s2, rfl, hr2, hb_⟩; replace hr2 := Aside0.mk hr2; replace hb_ := Aside0.mk hb_; refine ⟨_, rfl, hb_.out, fun H_ => ?_⟩)) | ((with_reducible refine gate_storeG ?_); refine hp_storeFG H rfl rfl rfl rfl (n := 0) rfl rfl (by kernel_rfl) (by rfl) (by rfl) (sv_all _ rfl) rfl ?_; intro W_ H_ hf_ hz_; replace hf_ := Aside0.mk hf_; replace hz_ := Aside0.mk hz_; clear H; have H := H_; clear H_)); (try (clear H; have H := H_; clear H_)); (try simp only [Act.put, List.setIfInBounds_toArray, List.set_cons_zero, List.set_cons_succ]))
        go_roundg qk
        case measure => omega
        case rel => exact ⟨i + 1, s2, t1.step lc, (by first | exact congrArg (Value.int .i64) hw1.out | exact congrArg (Value.int .i64) (by omega)), ⟨by have := hik.out.1; omega, by rw [hik.out.2.1, from_succ (by rw [hen.out]; simp)], by rw [hik.out.2.2, from_succ (by rw [hen.out]; simp)]; show i + (_ + 1) = i + 1 + _; omega⟩, ⟨hok.out.step hen.out⟩, ⟨hwf.out.step hcu.out⟩, ⟨hst.out.step hbw.out hgs0.out hgs0.out hb_.out hr2.out hf_.out hz_.out⟩, H⟩
      · have hrr := fin.out ⟨by rw [hik.out.2.1, from_ended hen], by rw [hik.out.2.2, from_ended hen]; rfl⟩
        generalize he1 : t1.en = en at hen hrr
        have hT : Aside0 (∀ W9, Below wr.heap.size wr W9 → RdT W9 r1 ⟨t1.out, en, t1.code, t1.flt, t1.byt, (i : Int)⟩) := ⟨fun W9 h9 => by have h := hR1.out W9 (below_step H.below h9); rw [hrr] at h; exact h⟩
        have hR0 := hst.out.now hS0.out H.below
        have hSn : Aside0 (∀ W9, Below wr.heap.size wr W9 → Rd W9 s1 t1) := ⟨fun W9 h9 => hR0.below h9⟩
        have hT0 := hT.out _ (Below.refl _ _)
        have q1 : Aside0 (r1.c[1]? = some (.bool en)) := ⟨by rw [v_en, hT0.en]⟩
        have q2 : Aside0 (r1.c[2]? = some (.int .u32 s1.code)) := ⟨by rw [v_code, hT0.code, hR0.code]⟩
        have q3 : Aside0 (r1.c[3]? = some (.int .i64 s1.flt)) := ⟨by rw [v_flt, hT0.flt, hR0.flt]⟩
        have q5 : Aside0 (r1.c[5]? = some (.int .i64 (i : Int))) := ⟨by rw [v_steps, hT0.steps]⟩
        have qe : Aside0 (s1.c[22]? = some (.bool en)) := ⟨by rw [g_en, hR0.en, he1]⟩
        have fA := f7
        replace f7 := Aside0.mk ((H.below.block _ (blk_lt fA.out)).trans fA.out)
        have f8 := Aside0.mk (H.heap (g := t8) (cs := s1.c) (t := 37) (by repeat (first | exact .head _ | refine .tail _ ?_)))
        replace hw := Aside0.mk (below_step hw.out H.below)
        clear H hR0 hT0 fA hrr fin he1
        have H := Hp.nil wr
        go_wp2_with ((first | ((with_reducible refine gate_guardG ?_); refine hp_guardLG rfl rfl ?_; (with_reducible first | refine go_tt ?_ | refine go_ff ?_ | refine go_tf ?_ | refine go_ft ?_)) | ((with_reducible refine gate_dst (N := 36) rfl ?_); ((with_reducible refine gate_fnG ?_); (refine hp_goesG H rfl (f := 12) rfl Try.func12 (by kernel_rfl) rfl (splicelaw07_fuel.calls _ _ _ hfu.out) (by (try simp only [List.map_toArray, List.map_cons, List.map_nil]); first | done | rfl) ?_; rintro e_ W_ ⟨rfl, hb_⟩; refine ⟨_, rfl, hb_.below, fun H_ => ?_⟩))) | ((with_reducible refine gate_dst (N := 40) rfl ?_); ((with_reducible refine gate_loadG ?_); refine hp_loadXG rfl rfl rfl ((H.below.block _ (blk_lt f8.out)).trans f8.out) (by kernel_rfl) (by exact qe.out) ?_)) | ((with_reducible refine gate_dst (N := 50) rfl ?_); ((with_reducible refine gate_loadG ?_); refine hp_loadXG rfl rfl rfl ((H.below.block _ (blk_lt f7.out)).trans f7.out) (by kernel_rfl) (by exact v_out r1) ?_)) | ((with_reducible refine gate_dst (N := 52) rfl ?_); ((with_reducible refine gate_loadG ?_); refine hp_loadXG rfl rfl rfl ((H.below.block _ (blk_lt f8.out)).trans f8.out) (by kernel_rfl) (by exact g_out s1) ?_)) | ((with_reducible refine gate_dst (N := 53) rfl ?_); ((with_reducible refine gate_fnG ?_); refine hp_goesG H rfl (f := 14) rfl Try.func14 (by kernel_rfl) rfl (rsame_c (hT.out _ H.below).out (hSn.out _ H.below).out (r := true) (by simp)) (by (try simp only [List.map_toArray, List.map_cons, List.map_nil]); first | done | rfl) ?_; rintro e_ W_ ⟨rfl, hb_⟩; refine ⟨_, rfl, ?_, fun H_ => ?_⟩; exact hb_)) | ((with_reducible refine gate_dst (N := 56) rfl ?_); ((with_reducible refine gate_loadG ?_); refine hp_loadXG rfl rfl rfl ((H.below.block _ (blk_lt f7.out)).trans f7.out) (by kernel_rfl) (by exact q1.out) ?_)) | ((with_reducible refine gate_dst (N := 58) rfl ?_); ((with_reducible refine gate_loadG ?_); refine hp_loadXG rfl rfl rfl ((H.below.block _ (blk_lt f8.out)).trans f8.out) (by kernel_rfl) (by exact qe.out) ?_)) | ((with_reducible refine gate_dst (N := 63) rfl ?_); ((with_reducible refine gate_loadG ?_); refine hp_loadXG rfl rfl rfl ((H.below.block _ (blk_lt f7.out)).trans f7.out) (by kernel_rfl) (by exact q2.out) ?_)) | ((with_reducible refine gate_dst (N := 65) rfl ?_); ((with_reducible refine gate_loadG ?_); refine hp_loadXG rfl rfl rfl ((H.below.block _ (blk_lt f8.out)).trans f8.out) (by kernel_rfl) (by exact g_code s1) ?_)) | ((with_reducible refine gate_dst (N := 70) rfl ?_); ((with_reducible refine gate_loadG ?_); refine hp_loadXG rfl rfl rfl ((H.below.block _ (blk_lt f7.out)).trans f7.out) (by kernel_rfl) (by exact q3.out) ?_)) | ((with_reducible refine gate_dst (N := 72) rfl ?_); ((with_reducible refine gate_loadG ?_); refine hp_loadXG rfl rfl rfl ((H.below.block _ (blk_lt f8.out)).trans f8.out) (by kernel_rfl) (by exact g_flt s1) ?_)) | ((with_reducible refine gate_dst (N := 77) rfl ?_); ((with_reducible refine gate_loadG ?_); refine hp_loadXG rfl rfl rfl ((H.below.block _ (blk_lt f7.out)).trans f7.out) (by kernel_rfl) (by exact v_mem r1) ?_)) | ((with_reducible refine gate_dst (N := 80) rfl ?_); ((with_reducible refine gate_loadG ?_); refine hp_loadXG rfl rfl rfl ((H.below.block _ (blk_lt f8.out)).trans f8.out) (by kernel_rfl) (by exact g_byt s1) ?_)) | ((with_reducible refine gate_dst (N := 81) rfl ?_); ((with_reducible refine gate_fnG ?_); refine hp_goesG H rfl (f := 14) rfl Try.func14 (by kernel_rfl) rfl (rsame_c (hT.out _ H.below).mem (hSn.out _ H.below).byt (r := true) (by simp)) (by (try simp only [List.map_toArray, List.map_cons, List.map_nil]); first | done | rfl) ?_; rintro e_ W_ ⟨rfl, hb_⟩; refine ⟨_, rfl, ?_, fun H_ => ?_⟩; exact hb_)) | ((with_reducible refine gate_dst (N := 85) rfl ?_); ((with_reducible refine gate_loadG ?_); refine hp_loadXG rfl rfl rfl ((H.below.block _ (blk_lt f7.out)).trans f7.out) (by kernel_rfl) (by exact q5.out) ?_))); (try (clear H; have H := H_; clear H_)); (try simp only [Act.put, List.setIfInBounds_toArray, List.set_cons_zero, List.set_cons_succ]))
        go_ret
        exact ⟨rfl, below_step hw.out H.below⟩
    · have d0 : decide (i < kf) = false := decide_eq_false hlt
      have d1 : decide ((i : Int) < (kf : Int)) = false := decide_eq_false (by omega)
      have hg0 : gk = 0 := by have := hik.out.1; omega
      subst hg0
      have hrr := fin.out ⟨by rw [hik.out.2.1]; rfl, by rw [hik.out.2.2]; rfl⟩
      generalize he1 : t1.en = en at hrr
      have hT : Aside0 (∀ W9, Below wr.heap.size wr W9 → RdT W9 r1 ⟨t1.out, en, t1.code, t1.flt, t1.byt, (i : Int)⟩) := ⟨fun W9 h9 => by have h := hR1.out W9 (below_step H.below h9); rw [hrr] at h; exact h⟩
      have hR0 := hst.out.now hS0.out H.below
      have hSn : Aside0 (∀ W9, Below wr.heap.size wr W9 → Rd W9 s1 t1) := ⟨fun W9 h9 => hR0.below h9⟩
      have hT0 := hT.out _ (Below.refl _ _)
      have q1 : Aside0 (r1.c[1]? = some (.bool en)) := ⟨by rw [v_en, hT0.en]⟩
      have q2 : Aside0 (r1.c[2]? = some (.int .u32 s1.code)) := ⟨by rw [v_code, hT0.code, hR0.code]⟩
      have q3 : Aside0 (r1.c[3]? = some (.int .i64 s1.flt)) := ⟨by rw [v_flt, hT0.flt, hR0.flt]⟩
      have q5 : Aside0 (r1.c[5]? = some (.int .i64 (i : Int))) := ⟨by rw [v_steps, hT0.steps]⟩
      have qe : Aside0 (s1.c[22]? = some (.bool en)) := ⟨by rw [g_en, hR0.en, he1]⟩
      have fA := f7
      replace f7 := Aside0.mk ((H.below.block _ (blk_lt fA.out)).trans fA.out)
      have f8 := Aside0.mk (H.heap (g := t8) (cs := s1.c) (t := 37) (by repeat (first | exact .head _ | refine .tail _ ?_)))
      replace hw := Aside0.mk (below_step hw.out H.below)
      clear H hR0 hT0 fA hrr fin he1
      have H := Hp.nil wr
      go_wp2_with ((first | ((with_reducible refine gate_guardG ?_); refine hp_guardLG rfl rfl ?_; (with_reducible first | refine go_tt ?_ | refine go_ff ?_ | refine go_tf ?_ | refine go_ft ?_)) | ((with_reducible refine gate_dst (N := 36) rfl ?_); ((with_reducible refine gate_fnG ?_); (refine hp_goesG H rfl (f := 12) rfl Try.func12 (by kernel_rfl) rfl (splicelaw07_fuel.calls _ _ _ hfu.out) (by (try simp only [List.map_toArray, List.map_cons, List.map_nil]); first | done | rfl) ?_; rintro e_ W_ ⟨rfl, hb_⟩; refine ⟨_, rfl, hb_.below, fun H_ => ?_⟩))) | ((with_reducible refine gate_dst (N := 40) rfl ?_); ((with_reducible refine gate_loadG ?_); refine hp_loadXG rfl rfl rfl ((H.below.block _ (blk_lt f8.out)).trans f8.out) (by kernel_rfl) (by exact qe.out) ?_)) | ((with_reducible refine gate_dst (N := 50) rfl ?_); ((with_reducible refine gate_loadG ?_); refine hp_loadXG rfl rfl rfl ((H.below.block _ (blk_lt f7.out)).trans f7.out) (by kernel_rfl) (by exact v_out r1) ?_)) | ((with_reducible refine gate_dst (N := 52) rfl ?_); ((with_reducible refine gate_loadG ?_); refine hp_loadXG rfl rfl rfl ((H.below.block _ (blk_lt f8.out)).trans f8.out) (by kernel_rfl) (by exact g_out s1) ?_)) | ((with_reducible refine gate_dst (N := 53) rfl ?_); ((with_reducible refine gate_fnG ?_); refine hp_goesG H rfl (f := 14) rfl Try.func14 (by kernel_rfl) rfl (rsame_c (hT.out _ H.below).out (hSn.out _ H.below).out (r := true) (by simp)) (by (try simp only [List.map_toArray, List.map_cons, List.map_nil]); first | done | rfl) ?_; rintro e_ W_ ⟨rfl, hb_⟩; refine ⟨_, rfl, ?_, fun H_ => ?_⟩; exact hb_)) | ((with_reducible refine gate_dst (N := 56) rfl ?_); ((with_reducible refine gate_loadG ?_); refine hp_loadXG rfl rfl rfl ((H.below.block _ (blk_lt f7.out)).trans f7.out) (by kernel_rfl) (by exact q1.out) ?_)) | ((with_reducible refine gate_dst (N := 58) rfl ?_); ((with_reducible refine gate_loadG ?_); refine hp_loadXG rfl rfl rfl ((H.below.block _ (blk_lt f8.out)).trans f8.out) (by kernel_rfl) (by exact qe.out) ?_)) | ((with_reducible refine gate_dst (N := 63) rfl ?_); ((with_reducible refine gate_loadG ?_); refine hp_loadXG rfl rfl rfl ((H.below.block _ (blk_lt f7.out)).trans f7.out) (by kernel_rfl) (by exact q2.out) ?_)) | ((with_reducible refine gate_dst (N := 65) rfl ?_); ((with_reducible refine gate_loadG ?_); refine hp_loadXG rfl rfl rfl ((H.below.block _ (blk_lt f8.out)).trans f8.out) (by kernel_rfl) (by exact g_code s1) ?_)) | ((with_reducible refine gate_dst (N := 70) rfl ?_); ((with_reducible refine gate_loadG ?_); refine hp_loadXG rfl rfl rfl ((H.below.block _ (blk_lt f7.out)).trans f7.out) (by kernel_rfl) (by exact q3.out) ?_)) | ((with_reducible refine gate_dst (N := 72) rfl ?_); ((with_reducible refine gate_loadG ?_); refine hp_loadXG rfl rfl rfl ((H.below.block _ (blk_lt f8.out)).trans f8.out) (by kernel_rfl) (by exact g_flt s1) ?_)) | ((with_reducible refine gate_dst (N := 77) rfl ?_); ((with_reducible refine gate_loadG ?_); refine hp_loadXG rfl rfl rfl ((H.below.block _ (blk_lt f7.out)).trans f7.out) (by kernel_rfl) (by exact v_mem r1) ?_)) | ((with_reducible refine gate_dst (N := 80) rfl ?_); ((with_reducible refine gate_loadG ?_); refine hp_loadXG rfl rfl rfl ((H.below.block _ (blk_lt f8.out)).trans f8.out) (by kernel_rfl) (by exact g_byt s1) ?_)) | ((with_reducible refine gate_dst (N := 81) rfl ?_); ((with_reducible refine gate_fnG ?_); refine hp_goesG H rfl (f := 14) rfl Try.func14 (by kernel_rfl) rfl (rsame_c (hT.out _ H.below).mem (hSn.out _ H.below).byt (r := true) (by simp)) (by (try simp only [List.map_toArray, List.map_cons, List.map_nil]); first | done | rfl) ?_; rintro e_ W_ ⟨rfl, hb_⟩; refine ⟨_, rfl, ?_, fun H_ => ?_⟩; exact hb_)) | ((with_reducible refine gate_dst (N := 85) rfl ?_); ((with_reducible refine gate_loadG ?_); refine hp_loadXG rfl rfl rfl ((H.below.block _ (blk_lt f7.out)).trans f7.out) (by kernel_rfl) (by exact q5.out) ?_))); (try (clear H; have H := H_; clear H_)); (try simp only [Act.put, List.setIfInBounds_toArray, List.set_cons_zero, List.set_cons_succ]))
      go_ret
      exact ⟨rfl, below_step hw.out H.below⟩
theorem traces_c (mv : IM) (lc ld : List Int) (A : Option Addr) (n c : Nat) (l : List Int) (q : Int) (w : World) (hc : RdS .u32 w mv.code.a mv.code.n mv.code.c lc) (hcu : ∀ x ∈ lc, U32 x) (hd : RdS .u8 w mv.data.a mv.data.n mv.data.c ld) (hdu : ∀ x ∈ ld, B8 x) (hi : RdS .u8 w A n c l) (hiu : ∀ x ∈ l, 0 ≤ x ∧ x ≤ 255) :
    Calls Try.prog 3 #[.agg mv.c, .slice A n c, .int .i64 q] w fun e w' => e = .returned (.bool true) ∧ Below w.heap.size w w' := by
  have hn : ∀ n : Nat, decide ((n : Int) > 200) = decide (200 < n) := fun n => decide_eq_decide.2 (by omega)
  by_cases hq : (!(fineF mv) || decide (200 < n) || decide (2000 < q)) = true
  · exact traces_turned mv lc ld A n c l q w ⟨hc⟩ ⟨hd⟩ _ _ _ ⟨rfl⟩ (hn _) rfl rfl rfl hq
  · simp only [Bool.not_eq_true, Bool.or_eq_false_iff, Bool.not_eq_false'] at hq
    obtain ⟨⟨hq1, hq2⟩, hq3⟩ := hq
    have hq4 : ¬ 2000 < q := by simpa using hq3
    have hn2 : ¬ 200 < n := by simpa using hq2
    refine traces_main mv lc ld A n c l q (if q < 0 then 0 else q).toNat w ⟨hc⟩ ⟨hcu⟩ ⟨hd⟩ ⟨hi⟩ ⟨hiu⟩ ⟨hq1⟩ ((hn _).trans hq2) hq2 hq3 hq3 ⟨?_⟩ ⟨?_⟩ ⟨?_⟩ ⟨by rw [← hi.1]; omega⟩ ⟨hdu⟩
    · split <;> omega
    · split <;> omega
    · unfold splicelaw07_fuel.f
      split
      · rfl
      · congr 1; omega
end Go.Proofs.Ytcagccodmmcnfaa.Cpu
