/- The reference's Step: all its ways joined: it is the step. Own work; a template. -/
import Derived.Test.YtcagccodmmcnfaaRunLb
import Derived.Test.YtcagccodmmcnfaaRunLc
import Derived.Test.YtcagccodmmcnfaaRunLd
import Derived.Test.YtcagccodmmcnfaaRunLe
import Derived.Test.YtcagccodmmcnfaaRunLf
import Derived.Test.YtcagccodmmcnfaaRunLg
import Derived.Test.YtcagccodmmcnfaaRunLh
import Derived.Test.YtcagccodmmcnfaaRunLi
import Derived.Test.YtcagccodmmcnfaaPureStepC
namespace Go.Proofs.Ytcagccodmmcnfaa.Cpu
open Go.RowKit Go.Proofs.YtcagccodmmcnfaaW.PrintWords Go.Proofs.YtcagccodmmcnfaaW.PrintLast Go.Proofs.YtcagccodmmcnfaaW.PrintMore Go.Proofs.Ytcagccodmmcnfaa.Hp Go.Proofs.Ytcagccodmmcnfaa.Q Go.Proofs.Ytcagccodmmcnfaa.Code
set_option linter.unusedVariables false
set_option linter.unusedSimpArgs false
theorem rt_op {o a b c i : Int} (h : Rt o a b c i) : (0 ≤ o ∧ o < 26) ∧ -8388608 ≤ i ∧ i ≤ 8388607 := by
  unfold Rt at h
  repeat' split at h
  all_goals first | exact h.elim | omega
theorem op_cases (o : Int) (h0 : 0 ≤ o) (h1 : o < 26) : o = 0 ∨ o = 25 ∨ o = 21 ∨ o = 11 ∨ o = 13 ∨ o = 12 ∨ o = 14 ∨ o = 22 ∨ o = 23 ∨ o = 24 ∨ o = 19 ∨ o = 20 ∨ (15 ≤ o ∧ o ≤ 18) ∨ (1 ≤ o ∧ o ≤ 10) := by omega
theorem step6_c (s : SV) (t : St) (A : Option Addr) (n c : Nat) (ws : List Int) (w : World) (h : Rd w s t) (hl : RdS .u32 w A n c ws) (hws : ∀ x ∈ ws, U32 x) (hwf : Wf t) (r0 : rd t.R 0 = 0) (hb : t.byt.length ≤ 1099511627776) (hk : t.back.length ≤ 1099511627776) (hil : t.inp.length ≤ 1099511627776) :
    Calls Try.prog 13 #[.slice A n c, .agg s.c] w (StIs w s t (t.step ws)) := by
  unfold St.step
  by_cases he : t.en = true
  · rw [if_pos he]
    exact rstep_ended s t A n c w (by rw [h.en, he])
  rw [if_neg he]
  have he' : s.en = false := by rw [h.en]; simpa using he
  by_cases ho : t.at_ < 0 ∨ (ws.length : Int) ≤ t.at_
  · rw [if_pos ho]
    exact rstep_out s t A n c w he' (by rw [h.at_, hl.1]; omega)
  rw [if_neg ho]
  have h0 : 0 ≤ s.at_ := by rw [h.at_]; omega
  have h1 : ¬ s.at_ ≥ (n : Int) := by rw [h.at_, hl.1]; omega
  have hx : U32 (rd ws t.at_) := rd_u32 hws _
  have hg : spliceref02_Get.f (rd ws t.at_) = some (getB (gW (rd ws t.at_))) := if_pos hx
  rw [← h.at_] at hg
  cases hq : gW (rd ws t.at_) with
  | none =>
    rw [h.at_, hq] at hg
    rw [← h.at_] at hg
    exact rstep_bad s t A n c ws w ⟨h⟩ he' h0 h1 ⟨hl⟩ 0 0 0 0 0 ⟨hg⟩
  | some q =>
    obtain ⟨o, a, b, c', i⟩ := q
    have hrt : Rt o a b c' i := (gt_word (by have := hx; unfold U32 at this; omega) (by omega) (by omega) hq).1
    obtain ⟨⟨a0, a1⟩, ⟨b0, b1⟩, ⟨c0, c1⟩⟩ := rt_bounds hrt
    obtain ⟨⟨o0, o1⟩, i0, i1⟩ := rt_op hrt
    rw [h.at_, hq] at hg
    rw [← h.at_] at hg
    replace hg : Aside0 (spliceref02_Get.f (rd ws s.at_) = some (o, a, b, c', i, true)) := ⟨hg⟩
    have hR : s.R = t.R := h.R
    have ha : U32 (rd t.R a) := rd_u32 hwf.R _
    have hbb : U32 (rd t.R b) := rd_u32 hwf.R _
    have hcc : U32 (rd t.R c') := rd_u32 hwf.R _
    have hkind := kind3_f o a b c' i o0 o1
    have hbr : 0 ≤ rd t.R b ∧ rd t.R b ≤ 4294967295 := hbb
    have e1 : wrap64 (rd s.R b) = rd t.R b := by rw [hR]; unfold wrap64; omega
    have e2 : wrap64 (wrap64 (rd s.R b) + i) = rd t.R b + i := by rw [e1]; unfold wrap64; omega
    have hm : Aside0 (spliceref01_Mod.f (wrap64 (wrap64 (rd s.R b) + i)) 4294967296 = some ((rd t.R b + i) % 4294967296)) := ⟨by rw [e2]; exact mod_f _ (by omega) (by omega)⟩
    have hwh : (rd t.R b + i) % 4294967296 % 4294967296 = whereF t ⟨o, a, b, c', i⟩ := by unfold whereF; simp only; omega
    have hwu : U32 (whereF t ⟨o, a, b, c', i⟩) := where_range t _
    have hr0 : Aside0 (rd t.R 0 = 0) := ⟨r0⟩
    have hia : Aside0 (0 ≤ a ∧ a < 16) := ⟨⟨a0, a1⟩⟩
    have hib : Aside0 (0 ≤ b ∧ b < 16) := ⟨⟨b0, b1⟩⟩
    show Calls _ _ _ _ (StIs w s t (t.does ⟨o, a, b, c', i⟩))
    have hld : ∀ (wide : Bool) (r : Int) (ok : Bool), (if okF t.byt.length (whereF t ⟨o, a, b, c', i⟩) wide = true then (loadW t.byt (whereF t ⟨o, a, b, c', i⟩ - 65536).toNat wide, true) else (0, false)) = (r, ok) →
        Aside0 (LoadAt w s.wr s.byt.a s.byt.n s.byt.c ((rd t.R b + i) % 4294967296 % 4294967296) wide r ok) := fun wide r ok hr => ⟨by
      rw [hwh]
      exact loadAt h.byt hwu hb hwf.byt hr⟩
    have load : ∀ wide, o = (if wide = true then 11 else 13) → Calls Try.prog 13 #[.slice A n c, .agg s.c] w (StIs w s t (t.load ⟨o, a, b, c', i⟩ wide)) := fun wide how => by
      unfold St.load
      by_cases ok : okF t.byt.length (whereF t ⟨o, a, b, c', i⟩) wide = true
      · rw [if_pos ok]
        have hl2 := hld wide _ _ (by rw [if_pos ok])
        subst how
        exact rload_yes s t A n c ws w ⟨h⟩ he' h0 h1 ⟨hl⟩ wide a b c' i hg hia hib ⟨by rw [hkind]; cases wide <;> rfl⟩ _ hm hr0 _ hl2
      · rw [if_neg ok]
        have hl2 := hld wide _ _ (by rw [if_neg ok])
        subst how
        exact rload_no s t A n c ws w ⟨h⟩ he' h0 h1 ⟨hl⟩ wide a b c' i hg hia hib ⟨by rw [hkind]; cases wide <;> rfl⟩ _ hm hr0 _ hl2
    have save : ∀ wide, o = (if wide = true then 12 else 14) → Calls Try.prog 13 #[.slice A n c, .agg s.c] w (StIs w s t (t.save ⟨o, a, b, c', i⟩ wide)) := fun wide how => by
      unfold St.save
      have hwr : s.wr = t.wr := h.wr
      have hbn : s.byt.n = t.byt.length := h.byt.1
      by_cases ok : okF t.byt.length (whereF t ⟨o, a, b, c', i⟩) wide = true ∧ t.wr ≤ whereF t ⟨o, a, b, c', i⟩ - 65536
      · rw [if_pos ok]
        obtain ⟨ok1, ok2⟩ := ok
        have hfit := okF_fits ok1
        obtain ⟨p, hp⟩ : ∃ p : Nat, whereF t ⟨o, a, b, c', i⟩ = 65536 + (p : Int) := ⟨(whereF t ⟨o, a, b, c', i⟩ - 65536).toNat, by omega⟩
        have hpp : (whereF t ⟨o, a, b, c', i⟩ - 65536).toNat = p := by omega
        have hl2 : ∀ W', Below w.heap.size w W' → Aside0 (LoadAt W' s.wr s.byt.a s.byt.n s.byt.c (65536 + (p : Int)) wide (loadW t.byt p wide) true) := fun W' hW => ⟨loadAt (h.byt.below hW) (by rw [← hp]; exact hwu) hb hwf.byt (by rw [← hp, if_pos ok1, hpp])⟩
        have hwu2 : 0 ≤ whereF t ⟨o, a, b, c', i⟩ ∧ whereF t ⟨o, a, b, c', i⟩ ≤ 4294967295 := hwu
        have hsv : ∀ W', Below w.heap.size w W' → Calls Try.prog 26 #[.agg #[.int .i64 s.wr, .slice s.byt.a s.byt.n s.byt.c], .int .u32 ((rd t.R b + i) % 4294967296 % 4294967296), .int .u32 (rd s.R a), .bool wide] W' (SaveIs W' s.wr s.byt.n (saveL t.byt (whereF t ⟨o, a, b, c', i⟩ - 65536).toNat (rd t.R a) wide)) := fun W' hW => by
          rw [hwh, hp, hR, show (65536 + (p : Int) - 65536).toNat = p by omega]
          exact rsave_yes s.wr s.byt.a s.byt.n s.byt.c t.byt p (rd t.R a) wide _ W' ⟨h.byt.below hW⟩ ⟨hb⟩ (by omega) (by rw [hwr]; omega) ⟨by rw [hbn, ← hpp]; exact hfit.2⟩ ha (hl2 W' hW)
        subst how
        exact rsave_done s t A n c ws w ⟨h⟩ he' h0 h1 ⟨hl⟩ wide a b c' i hg hia hib ⟨by rw [hkind]; cases wide <;> rfl⟩ _ hm hr0 _ ⟨hsv⟩
      · rw [if_neg ok]
        have hsv : ∀ W', Below w.heap.size w W' → Calls Try.prog 26 #[.agg #[.int .i64 s.wr, .slice s.byt.a s.byt.n s.byt.c], .int .u32 ((rd t.R b + i) % 4294967296 % 4294967296), .int .u32 (rd s.R a), .bool wide] W' fun e w' => e = .returned (.tuple #[.agg #[.int .i64 s.wr, .slice s.byt.a s.byt.n s.byt.c], .bool false]) ∧ Below W'.heap.size W' w' := fun W' hW => by
          rw [hwh]
          by_cases ok1 : okF t.byt.length (whereF t ⟨o, a, b, c', i⟩) wide = true
          · have hfit := okF_fits ok1
            obtain ⟨p, hp⟩ : ∃ p : Nat, whereF t ⟨o, a, b, c', i⟩ = 65536 + (p : Int) := ⟨(whereF t ⟨o, a, b, c', i⟩ - 65536).toNat, by omega⟩
            have hpp : (whereF t ⟨o, a, b, c', i⟩ - 65536).toNat = p := by omega
            have hwu2 : 0 ≤ whereF t ⟨o, a, b, c', i⟩ ∧ whereF t ⟨o, a, b, c', i⟩ ≤ 4294967295 := hwu
            have hlow : ¬ t.wr ≤ whereF t ⟨o, a, b, c', i⟩ - 65536 := fun hh => ok ⟨ok1, hh⟩
            have hl3 : Aside0 (LoadAt W' s.wr s.byt.a s.byt.n s.byt.c (65536 + (p : Int)) wide (loadW t.byt p wide) true) := ⟨loadAt (h.byt.below hW) (by rw [← hp]; exact hwu) hb hwf.byt (by rw [← hp, if_pos ok1, hpp])⟩
            rw [hp]
            exact rsave_low s.wr s.byt.a s.byt.n s.byt.c p (rd s.R a) wide _ W' (by omega) (by rw [hwr]; omega) hl3
          · exact rsave_no s.wr s.byt.a s.byt.n s.byt.c _ (rd s.R a) wide 0 W' ⟨loadAt (h.byt.below hW) hwu hb hwf.byt (by rw [if_neg ok1])⟩
        subst how
        exact rsave_fail s t A n c ws w ⟨h⟩ he' h0 h1 ⟨hl⟩ wide a b c' i hg hia hib ⟨by rw [hkind]; cases wide <;> rfl⟩ _ hm hr0 ⟨hsv⟩
    rcases op_cases o o0 o1 with rfl | rfl | rfl | rfl | rfl | rfl | rfl | rfl | rfl | rfl | rfl | rfl | ho | ho
    · exact rstep_halt s t A n c ws w ⟨h⟩ he' h0 h1 ⟨hl⟩ a b c' i hg hia hib ⟨hkind⟩
    · exact rstep_trap s t A n c ws w ⟨h⟩ he' h0 h1 ⟨hl⟩ a b c' i hg hia hib ⟨hkind⟩
    · by_cases hz : t.back.length = 0
      · have e : t.does ⟨21, a, b, c', i⟩ = t.fault 5 := by
          show St.ends t ⟨21, a, b, c', i⟩ = _
          unfold St.ends
          rw [if_neg (show ¬ (21 : Int) = 0 by decide), if_neg (show ¬ (21 : Int) = 25 by decide), if_pos hz]
          rfl
        rw [e]
        exact rstep_ret0 s t A n c ws w ⟨h⟩ he' h0 h1 ⟨hl⟩ a b c' i hg hia hib ⟨hkind⟩ (by rw [h.back.1]; exact hz)
      · have e : t.does ⟨21, a, b, c', i⟩ = { t with at_ := rd t.back ((t.back.length : Int) - 1), back := t.back.take (t.back.length - 1) } := by
          show St.ends t ⟨21, a, b, c', i⟩ = _
          unfold St.ends
          rw [if_neg (show ¬ (21 : Int) = 0 by decide), if_neg (show ¬ (21 : Int) = 25 by decide), if_neg hz]
        rw [e]
        exact rstep_ret1 s t A n c ws w ⟨h⟩ he' h0 h1 ⟨hl⟩ a b c' i hg hia hib ⟨hkind⟩ (by omega) ⟨hk⟩
    · exact load true rfl
    · exact load false rfl
    · exact save true rfl
    · exact save false rfl
    · show Calls _ _ _ _ (StIs w s t (t.inn _))
      unfold St.inn
      cases hi : t.inp with
      | nil => exact rin_none s t A n c ws w ⟨h⟩ he' h0 h1 ⟨hl⟩ a b c' i hg hia hib ⟨hkind⟩ _ hm hr0 (by rw [h.inp.1, hi]; rfl)
      | cons c1 li =>
        have hn1 : 1 ≤ s.inp.n := by rw [h.inp.1, hi]; simp
        obtain ⟨ad, ea, hx1⟩ := h.inp.at_ 0 (by omega) (by omega)
        have hx0 : rd t.inp 0 = c1 := by rw [hi]; rfl
        rw [hx0] at hx1
        have hcb := hwf.inp c1 (by rw [hi]; simp)
        have hcm : m32 c1 = c1 := by unfold m32; unfold B8 at hcb; omega
        have hsn : s.inp.n ≤ 1099511627776 := by rw [h.inp.1]; exact hil
        have hc1 : ∀ W9 : World, RdS .u8 W9 s.inp.a s.inp.n s.inp.c t.inp → RdS .u8 W9 (if s.inp.c = 1 then some ad else some (ad.add 1)) (s.inp.n - 1) (s.inp.c - 1) li := fun W9 hq => by
          obtain ⟨hn, hc, hm, hr⟩ := hq
          have hd := Kd.C_drop hr (m := 1) (by omega) (by omega : t.inp.length ≤ s.inp.c)
          rw [hi, ea] at hd
          rw [hi] at hn
          simp only [List.drop_succ_cons, List.drop_zero, Nat.one_mul, show (Kd.int .u8).sz = 1 from rfl, Option.map_some] at hd
          rw [List.length_cons] at hn
          exact ⟨by omega, by omega, by omega, hd⟩
        by_cases hcap : s.inp.c = 1
        · refine rin_last s t A n c ws w ⟨h⟩ he' h0 h1 ⟨hl⟩ a b c' i hg hia hib ⟨hkind⟩ _ hm hr0 c1 li ad ea ⟨hx1⟩ ⟨hcm⟩ hn1 hcap ⟨fun W9 hq => ?_⟩ ⟨hsn⟩
          have := hc1 W9 hq
          rw [if_pos hcap, show s.inp.c - 1 = 0 by omega] at this
          exact this
        · refine rin_more s t A n c ws w ⟨h⟩ he' h0 h1 ⟨hl⟩ a b c' i hg hia hib ⟨hkind⟩ _ hm hr0 c1 li ad ea ⟨hx1⟩ ⟨hcm⟩ hn1 hcap ⟨fun W9 hq => ?_⟩ ⟨hsn⟩
          have := hc1 W9 hq
          rw [if_neg hcap] at this
          exact this
    · show Calls _ _ _ _ (StIs w s t (t.outp _))
      unfold St.outp
      have hon : s.out.n = t.out.length := h.out.1
      by_cases hz : t.out.length < 4096
      · rw [if_pos hz]
        refine rout_room s t A n c ws w ⟨h⟩ he' h0 h1 ⟨hl⟩ a b c' i hg hia hib ⟨hkind⟩ _ hm hr0 (by rw [hon]; exact hz) ⟨?_⟩
        rw [hR]
        have ha2 : 0 ≤ rd t.R a ∧ rd t.R a ≤ 4294967295 := ha
        rw [Int.tmod_eq_emod_of_nonneg ha2.1]
        unfold m8
        omega
      · rw [if_neg hz]
        exact rout_full s t A n c ws w ⟨h⟩ he' h0 h1 ⟨hl⟩ a b c' i hg hia hib ⟨hkind⟩ _ hm hr0 (by rw [hon]; exact hz)
    · exact rnone s t A n c ws w ⟨h⟩ he' h0 h1 ⟨hl⟩ a b c' i hg hia hib ⟨hkind⟩ _ hm hr0
    · exact rjump s t A n c ws w ⟨h⟩ he' h0 h1 ⟨hl⟩ a b c' i hg hia hib ⟨hkind⟩ _ hm hr0
    · exact rcall s t A n c ws w ⟨h⟩ he' h0 h1 ⟨hl⟩ a b c' i hg hia hib ⟨hkind⟩ _ hm hr0 ⟨hk⟩
    · have k2 : kindF o = 2 := by
        have : o = 15 ∨ o = 16 ∨ o = 17 ∨ o = 18 := by omega
        rcases this with rfl | rfl | rfl | rfl <;> rfl
      have fl : flipF o ≠ -1 := by
        have : o = 15 ∨ o = 16 ∨ o = 17 ∨ o = 18 := by omega
        rcases this with rfl | rfl | rfl | rfl <;> decide
      have htk := taken4_f o (rd t.R a) (rd t.R b) ha hbb
      have e : t.does ⟨o, a, b, c', i⟩ = { t with at_ := if takenF o (rd t.R a) (rd t.R b) = true then wrap64 (wrap64 (t.at_ + 1) + i) else wrap64 (t.at_ + 1) } := by
        unfold St.does
        simp only [k2]
        rw [if_neg (by decide), if_neg (by decide), if_neg (by decide)]
        unfold St.leads
        simp only
        rw [if_neg (by omega : ¬ o = 20)]
        congr 1
        by_cases ht : takenF o (rd t.R a) (rd t.R b) = true
        · rw [if_pos (.inr ht), if_pos ht]
        · rw [if_neg (fun hh => hh.elim fl ht), if_neg ht]
      rw [e]
      rw [k2] at hkind
      cases ht : takenF o (rd t.R a) (rd t.R b) with
      | true => exact rbranch s t A n c ws w ⟨h⟩ he' h0 h1 ⟨hl⟩ true o a b c' i hg hia hib ⟨hkind⟩ _ hm hr0 (by omega) (by omega) (by omega) (by omega) (by omega) (by omega) (by omega) (by omega) (by omega) ⟨by rw [hR, htk, ht]⟩
      | false => exact rbranch s t A n c ws w ⟨h⟩ he' h0 h1 ⟨hl⟩ false o a b c' i hg hia hib ⟨hkind⟩ _ hm hr0 (by omega) (by omega) (by omega) (by omega) (by omega) (by omega) (by omega) (by omega) (by omega) ⟨by rw [hR, htk, ht]⟩
    · have k0 : kindF o = 0 := by
        have : o = 1 ∨ o = 2 ∨ o = 3 ∨ o = 4 ∨ o = 5 ∨ o = 6 ∨ o = 7 ∨ o = 8 ∨ o = 9 ∨ o = 10 := by omega
        rcases this with rfl | rfl | rfl | rfl | rfl | rfl | rfl | rfl | rfl | rfl <;> rfl
      have e : t.does ⟨o, a, b, c', i⟩ = t.put a (doF ⟨o, a, b, c', i⟩ (rd t.R b) (rd t.R c')) := by
        unfold St.does
        simp only [k0]
        rw [if_pos trivial, if_neg (by omega : ¬ o = 24)]
      rw [e]
      rw [k0] at hkind
      have hdo := (do4_f 34 (Nat.le_refl _) ⟨o, a, b, c', i⟩ hrt (rd t.R b) (rd t.R c') hbb hcc).1
      exact ralu s t A n c ws w ⟨h⟩ he' h0 h1 ⟨hl⟩ o a b c' i hg hia ⟨⟨c0, c1⟩⟩ hib ⟨hkind⟩ _ hm hr0 (by omega) (by omega) (by omega) (by omega) (by omega) (by omega) (by omega) (by omega) (by omega) (by omega) _ _ ⟨by rw [hR]; exact hdo⟩
end Go.Proofs.Ytcagccodmmcnfaa.Cpu
