/- Several texts in one, written by mergeall.py. Own work. -/
import Derived.Test.YtcagccodmmcnfaaMxG
import Derived.Test.YtcagccodmmcnfaaMxB
import Derived.Test.YtcagccodmmcnfaaMxA
import Derived.Test.YtcagccodmmcnfaaMxF
import Derived.Test.YtcagccodmmcnfaaQ37
section
/- What a step changes: the plain law of CpuAlone. Own work; a template. -/
namespace Go.Proofs.Ytcagccodmmcnfaa.Cpu
open Go.RowKit Go.Proofs.YtcagccodmmcnfaaW.PrintWords Go.Proofs.YtcagccodmmcnfaaW.PrintLast Go.Proofs.YtcagccodmmcnfaaW.PrintMore Go.Proofs.Ytcagccodmmcnfaa.Hp Go.Proofs.Ytcagccodmmcnfaa.Q Go.Proofs.Ytcagccodmmcnfaa.Code
set_option linter.unusedVariables false
/-- T is what a step of kind op makes of t. -/
structure Alone (t T : St) (op : Int) : Prop where
  r0 : rd T.R 0 = 0
  byt : op ≠ 12 → op ≠ 14 → T.byt = t.byt
  wr : T.wr = t.wr
  out : op ≠ 23 → T.out = t.out
  inp : op ≠ 22 → T.inp = t.inp
  back : op ≠ 20 → op ≠ 21 → T.back.length = t.back.length
  len : T.byt.length = t.byt.length
  at_ : T.en = true → T.at_ = t.at_
  R : T.en = true → T.R = t.R
theorem noen {b c : Bool} (he : b = false) (e : c = b) {P : Prop} (h : c = true) : P := by
  rw [e, he] at h
  cases h
theorem fault_alone {t : St} (k op : Int) (h0 : rd t.R 0 = 0) : Alone t (t.fault k) op := ⟨h0, fun _ _ => rfl, rfl, fun _ => rfl, fun _ => rfl, fun _ _ => rfl, rfl, fun _ => rfl, fun _ => rfl⟩
theorem put_r0 {R : List Int} (r v : Int) (h0 : rd R 0 = 0) : rd (if 0 < r then R.set r.toNat v else R) 0 = 0 := by
  split
  · rename_i h
    unfold rd at h0 ⊢
    rw [List.getD_eq_getElem?_getD, List.getElem?_set_ne (by omega), ← List.getD_eq_getElem?_getD]
    exact h0
  · exact h0
theorem put_alone {t : St} (r v op : Int) (h0 : rd t.R 0 = 0) (he : t.en = false) : Alone t (t.put r v) op :=
  ⟨put_r0 r v h0, fun _ _ => rfl, rfl, fun _ => rfl, fun _ => rfl, fun _ _ => rfl, rfl, noen he rfl, noen he rfl⟩
theorem ite_ne {c : Prop} [Decidable c] {x y k : Int} (h1 : x = k → False) (h2 : y = k → False) : (if c then x else y) = k → False := by split <;> assumption
theorem kind5 {op : Int} (h : kindF op = 5) : op = 0 ∨ op = 21 ∨ op = 25 := by
  unfold kindF at h
  by_cases e1 : op = 0
  · exact .inl e1
  by_cases e2 : op = 21
  · exact .inr (.inl e2)
  by_cases e3 : op = 25
  · exact .inr (.inr e3)
  rw [if_neg e1, if_neg e2, if_neg e3] at h
  exfalso
  revert h
  repeat' (refine ite_ne ?_ ?_)
  all_goals decide
theorem step_alone (t : St) (ws : List Int) (h0 : rd t.R 0 = 0) (he : t.en = false) : ∀ op, (op = if (t.at_ < (ws.length : Int)) then (match gW (rd ws t.at_) with | some (o, _, _, _, _) => o | none => -1) else -1) → Alone t (t.step ws) op := by
  intro op hop
  unfold St.step
  rw [if_neg (by rw [he]; simp)]
  by_cases ho : t.at_ < 0 ∨ (ws.length : Int) ≤ t.at_
  · rw [if_pos ho]
    exact fault_alone 2 op h0
  rw [if_neg ho]
  rw [if_pos (by omega)] at hop
  cases hg : gW (rd ws t.at_) with
  | none => exact fault_alone 2 op h0
  | some q =>
    obtain ⟨o, a, b, c, i⟩ := q
    rw [hg] at hop
    simp only at hop
    subst hop
    show Alone t (t.does ⟨op, a, b, c, i⟩) op
    unfold St.does
    split
    · split
      · exact put_alone 0 0 op h0 he
      · exact put_alone _ _ op h0 he
    split
    · rename_i hk0 hk1
      unfold St.effect
      have ld : ∀ wide, Alone t (t.load ⟨op, a, b, c, i⟩ wide) op := fun wide => by
        unfold St.load
        split
        · exact put_alone _ _ op h0 he
        · exact fault_alone _ op h0
      have sv : ∀ wide, (op = 12 ∨ op = 14) → Alone t (t.save ⟨op, a, b, c, i⟩ wide) op := fun wide h => by
        unfold St.save
        split
        · rename_i hq
          refine ⟨h0, fun h1 h2 => by omega, rfl, fun _ => rfl, fun _ => rfl, fun _ _ => rfl, ?_, noen he rfl, noen he rfl⟩
          show (saveL t.byt _ _ wide).length = t.byt.length
          unfold saveL
          have := hq.1
          unfold okF at this
          have := of_decide_eq_true this
          have hx : ((byteF (rd t.R a)).take (sizeF wide).toNat).length = (sizeF wide).toNat := by cases wide <;> rfl
          have hs : 0 ≤ sizeF wide := by cases wide <;> decide
          show (splice t.byt _ ((byteF (rd t.R a)).take (sizeF wide).toNat)).length = _
          unfold splice
          simp only [List.length_append, List.length_take, List.length_drop, hx]
          rw [List.length_take] at hx
          omega
        · exact fault_alone _ op h0
      split
      · exact ld true
      split
      · exact ld false
      split
      · rename_i e; exact sv true (.inl e)
      split
      · rename_i e; exact sv false (.inr e)
      split
      · rename_i e
        have e : op = 22 := e
        unfold St.inn
        split
        · exact put_alone _ _ op h0 he
        · exact ⟨put_r0 _ _ h0, fun _ _ => rfl, rfl, fun _ => rfl, fun h => absurd e h, fun _ _ => rfl, rfl, noen he rfl, noen he rfl⟩
      · rename_i e1 e2 e3 e4 e5
        have e : op = 23 := by
          unfold kindF at hk1
          simp only at e1 e2 e3 e4 e5 hk1
          rw [if_neg e1, if_neg e3, if_neg e2, if_neg e4, if_neg e5] at hk1
          by_cases o6 : op = 23
          · exact o6
          · rw [if_neg o6] at hk1
            repeat' split at hk1
            all_goals omega
        unfold St.outp
        exact ⟨h0, fun _ _ => rfl, rfl, fun h => absurd e h, fun _ => rfl, fun _ _ => rfl, rfl, noen he rfl, noen he rfl⟩
    split
    · unfold St.ends
      rename_i hk0 hk1 hk5
      have hk5 : kindF op = 5 := hk5
      split
      · exact ⟨h0, fun _ _ => rfl, rfl, fun _ => rfl, fun _ => rfl, fun _ _ => rfl, rfl, fun _ => rfl, fun _ => rfl⟩
      split
      · exact ⟨h0, fun _ _ => rfl, rfl, fun _ => rfl, fun _ => rfl, fun _ _ => rfl, rfl, fun _ => rfl, fun _ => rfl⟩
      split
      · exact ⟨h0, fun _ _ => rfl, rfl, fun _ => rfl, fun _ => rfl, fun _ _ => rfl, rfl, fun _ => rfl, fun _ => rfl⟩
      · rename_i e1 e2 e3
        have e : op = 21 := by
          rcases kind5 hk5 with h | h | h
          · exact absurd h e1
          · exact h
          · exact absurd h e2
        exact ⟨h0, fun _ _ => rfl, rfl, fun _ => rfl, fun _ => rfl, fun _ h2 => absurd e h2, rfl, noen he rfl, noen he rfl⟩
    · unfold St.leads
      refine ⟨h0, fun _ _ => rfl, rfl, fun _ => rfl, fun _ => rfl, fun h1 h2 => ?_, rfl, noen he rfl, noen he rfl⟩
      show (if op = 20 then _ else t.back).length = _
      rw [if_neg h1]
end Go.Proofs.Ytcagccodmmcnfaa.Cpu
end
section
/- Runs: steps behind one another. Plain laws. Own work; a template. -/
namespace Go.Proofs.Ytcagccodmmcnfaa.Cpu
open Go.RowKit Go.Proofs.YtcagccodmmcnfaaW.PrintWords Go.Proofs.YtcagccodmmcnfaaW.PrintLast Go.Proofs.YtcagccodmmcnfaaW.PrintMore Go.Proofs.Ytcagccodmmcnfaa.Hp Go.Proofs.Ytcagccodmmcnfaa.Q Go.Proofs.Ytcagccodmmcnfaa.Code
set_option linter.unusedVariables false
/-- As many steps as there is fuel, none behind an end; how many. -/
def fromF (ws : List Int) : Nat → St → St × Nat
  | 0, t => (t, 0)
  | k + 1, t => if t.en = true then (t, 0) else ((fromF ws k (t.step ws)).1, (fromF ws k (t.step ws)).2 + 1)
theorem from_ended {ws : List Int} {t : St} (h : t.en = true) : ∀ k, fromF ws k t = (t, 0)
  | 0 => rfl
  | k + 1 => by unfold fromF; rw [if_pos h]
theorem from_succ {ws : List Int} {t : St} (h : ¬ t.en = true) (k : Nat) : fromF ws (k + 1) t = ((fromF ws k (t.step ws)).1, (fromF ws k (t.step ws)).2 + 1) := by
  rw [fromF, if_neg h]
theorem notf {P : Prop} (h : true = false) : P := by cases h
/-- What holds of a step's state besides. -/
structure More (t T : St) : Prop where
  back : T.back.length ≤ t.back.length + 1
  inp : ∀ x ∈ T.inp, x ∈ t.inp
  n16 : T.R.length = t.R.length
  go : T.en = false → T.code = t.code ∧ T.flt = t.flt
  ends : T.en = true → T.flt = 0 ∨ T.code = t.code
theorem fault_more {t : St} (k : Int) (he : t.en = false) : More t (t.fault k) := ⟨Nat.le_succ _, fun _ h => h, rfl, fun h => notf h, fun _ => .inr rfl⟩
theorem put_more {t : St} (r v : Int) (he : t.en = false) : More t (t.put r v) := ⟨Nat.le_succ _, fun _ h => h, by unfold St.put; simp only; split <;> simp, fun _ => ⟨rfl, rfl⟩, noen he rfl⟩
theorem step_more (t : St) (ws : List Int) (he : t.en = false) : More t (t.step ws) := by
  unfold St.step
  rw [if_neg (by rw [he]; simp)]
  split
  · exact fault_more 2 he
  cases hg : gW (rd ws t.at_) with
  | none => exact fault_more 2 he
  | some q =>
    obtain ⟨op, a, b, c, i⟩ := q
    show More t (t.does ⟨op, a, b, c, i⟩)
    unfold St.does
    split
    · split
      · exact put_more 0 0 he
      · exact put_more _ _ he
    split
    · unfold St.effect
      have ld : ∀ wide, More t (t.load ⟨op, a, b, c, i⟩ wide) := fun wide => by
        unfold St.load
        split
        · exact put_more _ _ he
        · exact fault_more _ he
      have sv : ∀ wide, More t (t.save ⟨op, a, b, c, i⟩ wide) := fun wide => by
        unfold St.save
        split
        · exact ⟨Nat.le_succ _, fun _ h => h, rfl, fun _ => ⟨rfl, rfl⟩, noen he rfl⟩
        · exact fault_more _ he
      split
      · exact ld true
      split
      · exact ld false
      split
      · exact sv true
      split
      · exact sv false
      split
      · unfold St.inn
        split
        · exact put_more _ _ he
        · rename_i x l hx
          exact ⟨Nat.le_succ _, fun y hy => by rw [hx]; exact .tail _ hy, by unfold St.put; simp only; split <;> simp, fun _ => ⟨rfl, rfl⟩, noen he rfl⟩
      · unfold St.outp
        exact ⟨Nat.le_succ _, fun _ h => h, rfl, fun _ => ⟨rfl, rfl⟩, noen he rfl⟩
    split
    · unfold St.ends
      split
      · exact ⟨Nat.le_succ _, fun _ h => h, rfl, fun h => notf h, fun _ => .inl rfl⟩
      split
      · exact ⟨Nat.le_succ _, fun _ h => h, rfl, fun h => notf h, fun _ => .inr rfl⟩
      split
      · exact ⟨Nat.le_succ _, fun _ h => h, rfl, fun h => notf h, fun _ => .inr rfl⟩
      · exact ⟨by show (t.back.take _).length ≤ _; rw [List.length_take]; omega, fun _ h => h, rfl, fun _ => ⟨rfl, rfl⟩, noen he rfl⟩
    · unfold St.leads
      refine ⟨?_, fun _ h => h, rfl, fun _ => ⟨rfl, rfl⟩, noen he rfl⟩
      show (if _ then _ else t.back).length ≤ _
      split
      · rw [List.length_append]; exact Nat.le_refl _
      · exact Nat.le_succ _
end Go.Proofs.Ytcagccodmmcnfaa.Cpu
end
section
/- Runs: how long what they write gets. Plain laws. Own work; a template. -/
namespace Go.Proofs.Ytcagccodmmcnfaa.Cpu
open Go.RowKit Go.Proofs.YtcagccodmmcnfaaW.PrintWords Go.Proofs.YtcagccodmmcnfaaW.PrintLast Go.Proofs.YtcagccodmmcnfaaW.PrintMore Go.Proofs.Ytcagccodmmcnfaa.Hp Go.Proofs.Ytcagccodmmcnfaa.Q Go.Proofs.Ytcagccodmmcnfaa.Code
set_option linter.unusedVariables false
def OutOk (t T : St) : Prop := T.out.length ≤ t.out.length ∨ T.out.length ≤ 4096
theorem outok_same {t T : St} (h : T.out = t.out) : OutOk t T := .inl (by rw [h]; exact Nat.le_refl _)
theorem step_outok (t : St) (ws : List Int) : OutOk t (t.step ws) := by
  unfold St.step
  split
  · exact outok_same rfl
  split
  · exact outok_same rfl
  cases hg : gW (rd ws t.at_) with
  | none => exact outok_same rfl
  | some q =>
    obtain ⟨op, a, b, c, i⟩ := q
    show OutOk t (t.does ⟨op, a, b, c, i⟩)
    unfold St.does
    split
    · split
      · exact outok_same rfl
      · exact outok_same rfl
    split
    · unfold St.effect
      have ld : ∀ wide, OutOk t (t.load ⟨op, a, b, c, i⟩ wide) := fun wide => by
        unfold St.load
        split
        · exact outok_same rfl
        · exact outok_same rfl
      have sv : ∀ wide, OutOk t (t.save ⟨op, a, b, c, i⟩ wide) := fun wide => by
        unfold St.save
        split
        · exact outok_same rfl
        · exact outok_same rfl
      split
      · exact ld true
      split
      · exact ld false
      split
      · exact sv true
      split
      · exact sv false
      split
      · unfold St.inn
        split
        · exact outok_same rfl
        · exact outok_same rfl
      · unfold St.outp OutOk
        show (if t.out.length < 4096 then _ else t.out).length ≤ _ ∨ (if t.out.length < 4096 then _ else t.out).length ≤ 4096
        split
        · right
          rw [List.length_append]
          show t.out.length + 1 ≤ 4096
          omega
        · exact .inl (Nat.le_refl _)
    split
    · unfold St.ends
      split
      · exact outok_same rfl
      split
      · exact outok_same rfl
      split
      · exact outok_same rfl
      · exact outok_same rfl
    · exact outok_same rfl
theorem from_out (ws : List Int) : ∀ (k : Nat) (t : St), OutOk t (fromF ws k t).1
  | 0, t => outok_same rfl
  | k + 1, t => by
    by_cases h : t.en = true
    · rw [from_ended h]
      exact outok_same rfl
    · rw [from_succ h]
      have h1 := step_outok t ws
      have h2 := from_out ws k (t.step ws)
      unfold OutOk at h1 h2 ⊢
      show (fromF ws k (t.step ws)).1.out.length ≤ _ ∨ (fromF ws k (t.step ws)).1.out.length ≤ _
      omega
theorem from_keep (ws : List Int) : ∀ (k : Nat) (t : St), rd t.R 0 = 0 → (fromF ws k t).1.byt.length = t.byt.length ∧ rd (fromF ws k t).1.R 0 = 0
  | 0, t, h0 => ⟨rfl, h0⟩
  | k + 1, t, h0 => by
    by_cases h : t.en = true
    · rw [from_ended h]
      exact ⟨rfl, h0⟩
    · rw [from_succ h]
      have ha := step_alone t ws h0 (by simpa using h) _ rfl
      have h2 := from_keep ws k (t.step ws) ha.r0
      exact ⟨h2.1.trans ha.len, h2.2⟩
end Go.Proofs.Ytcagccodmmcnfaa.Cpu
end
section
/- A state kept in a box while a run goes on: it reads as T whatever stands in the box. Own work; a template. -/
namespace Go.Proofs.Ytcagccodmmcnfaa.Cpu
open Go.RowKit Go.Proofs.YtcagccodmmcnfaaW.PrintWords Go.Proofs.YtcagccodmmcnfaaW.PrintLast Go.Proofs.YtcagccodmmcnfaaW.PrintMore Go.Proofs.Ytcagccodmmcnfaa.Hp Go.Proofs.Ytcagccodmmcnfaa.Q
set_option linter.unusedVariables false
theorem rds_agree {k : IntKind} {w W9 : World} {A : Option Addr} {n c : Nat} {l : List Int} (h : RdS k w A n c l) (hm : ∀ b, b < w.heap.size → W9.heap[b]? = w.heap[b]?) (hs : w.heap.size ≤ W9.heap.size) : RdS k W9 A n c l := by
  have h2 : RdS k { W9 with os := w.os, tape := w.tape, output := w.output } A n c l := h.below ⟨rfl, rfl, rfl, hs, hm⟩
  exact h2
theorem rd_agree {w W9 : World} {s : SV} {t : St} (h : Rd w s t) (hm : ∀ b, b < w.heap.size → W9.heap[b]? = w.heap[b]?) (hs : w.heap.size ≤ W9.heap.size) : Rd W9 s t :=
  ⟨h.at_, h.R, h.n16, rds_agree h.back hm hs, h.wr, rds_agree h.byt hm hs, rds_agree h.inp hm hs, rds_agree h.out hm hs, h.en, h.code, h.flt⟩
/-- In whatever world that has W's blocks, but what stands in block g, s reads as t. -/
def StF (g : Nat) (W : World) (s : SV) (t : St) : Prop := ∀ W9 : World, W.heap.size ≤ W9.heap.size → (∀ b, b ≠ g → b < W.heap.size → W9.heap[b]? = W.heap[b]?) → Rd W9 s t
theorem StF.now {g : Nat} {W : World} {s : SV} {t : St} (h : StF g W s t) : Rd W s t := h W (Nat.le_refl _) fun _ _ _ => rfl
theorem StF.start {g : Nat} {w W : World} {s : SV} {t : St} (h : Rd w s t) (hb : Below w.heap.size w W) (hg : w.heap.size ≤ g) : StF g W s t := fun W9 hs hm =>
  rd_agree h (fun b hb' => (hm b (by omega) (Nat.lt_of_lt_of_le hb' hb.size)).trans (hb.block b hb')) (Nat.le_trans hb.size hs)
theorem StF.below {g : Nat} {W W' : World} {s : SV} {t : St} (h : StF g W s t) (hb : Below W.heap.size W W') : StF g W' s t := fun W9 hs hm =>
  h W9 (Nat.le_trans hb.size hs) fun b h1 h2 => (hm b h1 (Nat.lt_of_lt_of_le h2 hb.size)).trans (hb.block b h2)
/-- A step's state, stored into the box. -/
theorem StF.step {g : Nat} {W W2 W3 : World} {s s2 : SV} {t T : St} (h : StF g W s t) (hg : g < W.heap.size) (hb : Below W.heap.size W W2)
    (hr : ∀ W9, (∀ b, W.heap.size ≤ b → b < W2.heap.size → W9.heap[b]? = W2.heap[b]?) → Rd W9 s t → Rd W9 s2 T)
    (hk : ∀ b, b ≠ g → W3.heap[b]? = W2.heap[b]?) (hz : W3.heap.size = W2.heap.size) : StF g W3 s2 T := fun W9 hs hm => by
  have h1 := hb.size
  refine hr W9 (fun b h2 h3 => (hm b (by omega) (by omega)).trans (hk b (by omega))) ?_
  exact h W9 (by omega) fun b h2 h3 => ((hm b h2 (by omega)).trans (hk b h2)).trans (hb.block b h3)
/-- What is kept while a run goes on: in whatever world that has the blocks made since w, but what stands in blocks g and r, and in which what was handed in reads as it did, s reads as t. -/
def StG (g r : Nat) (w W : World) (s0 : SV) (t0 : St) (s : SV) (t : St) : Prop := ∀ W9 : World, (∀ b, w.heap.size ≤ b → b ≠ g → b ≠ r → b < W.heap.size → W9.heap[b]? = W.heap[b]?) → Rd W9 s0 t0 → Rd W9 s t
theorem StG.start {g r : Nat} {w W : World} {s : SV} {t : St} : StG g r w W s t s t := fun _ _ h => h
theorem StG.now {g r : Nat} {w W : World} {s0 s : SV} {t0 t : St} (h : StG g r w W s0 t0 s t) (h0 : Rd w s0 t0) (hb : Below w.heap.size w W) : Rd W s t := h W (fun _ _ _ _ _ => rfl) (h0.below hb)
/-- A step's state, stored into the box. -/
theorem StG.step {g r : Nat} {w W W2 W3 : World} {s0 s s2 : SV} {t0 t T : St} (h : StG g r w W s0 t0 s t) (hw : w.heap.size ≤ W.heap.size) (hg : g < W.heap.size) (hg2 : r < W.heap.size) (hb : Below W.heap.size W W2)
    (hr : ∀ W9, (∀ b, W.heap.size ≤ b → b < W2.heap.size → W9.heap[b]? = W2.heap[b]?) → Rd W9 s t → Rd W9 s2 T)
    (hk : ∀ b, b ≠ g → W3.heap[b]? = W2.heap[b]?) (hz : W3.heap.size = W2.heap.size) : StG g r w W3 s0 t0 s2 T := fun W9 hm h0 => by
  have h1 := hb.size
  refine hr W9 (fun b h2 h3 => (hm b (by omega) (by omega) (by omega) (by omega)).trans (hk b (by omega))) ?_
  exact h W9 (fun b h2 h3 h4 h5 => ((hm b h2 h3 h4 (by omega)).trans (hk b h3)).trans (hb.block b h5)) h0
end Go.Proofs.Ytcagccodmmcnfaa.Cpu
end
section
/- A trace as its cells, read; run.Alike. Own work; a template, printed by gen_trace.py. -/
namespace Go.Proofs.Ytcagccodmmcnfaa.Cpu
open Go.RowKit Go.Proofs.YtcagccodmmcnfaaW.PrintWords Go.Proofs.YtcagccodmmcnfaaW.PrintLast Go.Proofs.YtcagccodmmcnfaaW.PrintMore Go.Proofs.Ytcagccodmmcnfaa.Hp Go.Proofs.Ytcagccodmmcnfaa.Q
set_option linter.unusedVariables false
set_option linter.unusedSimpArgs false
attribute [local go_sem] add_any
/-- A trace's words. -/
structure TV where
  out : Sl
  en : Bool
  code : Int
  flt : Int
  mem : Sl
  steps : Int
def TV.c (s : TV) : Array Value := #[.slice s.out.a s.out.n s.out.c, .bool s.en, .int .u32 s.code, .int .i64 s.flt, .slice s.mem.a s.mem.n s.mem.c, .int .i64 s.steps]
theorem v_out (s : TV) : s.c[0]? = some (.slice s.out.a s.out.n s.out.c) := rfl
theorem v_en (s : TV) : s.c[1]? = some (.bool s.en) := rfl
theorem v_code (s : TV) : s.c[2]? = some (.int .u32 s.code) := rfl
theorem v_flt (s : TV) : s.c[3]? = some (.int .i64 s.flt) := rfl
theorem v_mem (s : TV) : s.c[4]? = some (.slice s.mem.a s.mem.n s.mem.c) := rfl
theorem v_steps (s : TV) : s.c[5]? = some (.int .i64 s.steps) := rfl
theorem tv_all (s : TV) {cs : Array Value} (h : cs.size = 6) : putSeg cs 0 (Value.agg s.c).cells.toList = s.c := by
  unfold putSeg
  rw [List.drop_of_length_le (by rw [Array.length_toList, h]; exact Nat.le_refl _)]
  rfl
/-- What a trace says. -/
structure Tr where
  out : List Int
  en : Bool
  code : Int
  flt : Int
  mem : List Int
  steps : Int
structure RdT (w : World) (s : TV) (t : Tr) : Prop where
  out : RdS .u8 w s.out.a s.out.n s.out.c t.out
  en : s.en = t.en
  code : s.code = t.code
  flt : s.flt = t.flt
  mem : RdS .u8 w s.mem.a s.mem.n s.mem.c t.mem
  steps : s.steps = t.steps
theorem RdT.below {w w' : World} {s : TV} {t : Tr} (h : RdT w s t) (hb : Below w.heap.size w w') : RdT w' s t := ⟨h.out.below hb, h.en, h.code, h.flt, h.mem.below hb, h.steps⟩
def alikeF (t v : Tr) : Bool := t.out == v.out && (t.en == v.en && (t.code == v.code && (t.flt == v.flt && t.mem == v.mem)))
set_option maxHeartbeats 40000000 in
set_option maxRecDepth 100000 in
theorem alike_c (s u : TV) (t v : Tr) (w : World) (h : Aside0 (RdT w s t)) (k : Aside0 (RdT w u v)) {r : Bool} (hr : alikeF t v = r) : Calls Try.prog 17 #[.agg s.c, .agg u.c] w fun e w' => e = .returned (.bool r) ∧ Below w.heap.size w w' := by
  have H := Hp.nil w
  have hr' := hr
  unfold alikeF at hr'
  rw [← h.out.en, ← k.out.en, ← h.out.code, ← k.out.code, ← h.out.flt, ← k.out.flt] at hr'
  clear hr
  cases c0 : (t.out == v.out)
  obtain rfl : false = r := by
    rw [← hr']
    simp only [c0, Bool.true_and, Bool.false_and]
  clear hr'
  replace c0 := Aside0.mk c0
  rotate_left
  replace c0 := Aside0.mk c0
  cases c1 : (s.en == u.en)
  obtain rfl : false = r := by
    rw [← hr']
    simp only [c0.out, c1, Bool.true_and, Bool.false_and]
  clear hr'
  rotate_left
  cases c2 : (s.code == u.code)
  obtain rfl : false = r := by
    rw [← hr']
    simp only [c0.out, c1, c2, Bool.true_and, Bool.false_and]
  clear hr'
  rotate_left
  cases c3 : (s.flt == u.flt)
  obtain rfl : false = r := by
    rw [← hr']
    simp only [c0.out, c1, c2, c3, Bool.true_and, Bool.false_and]
  clear hr'
  rotate_left
  cases c4 : (t.mem == v.mem)
  obtain rfl : false = r := by
    rw [← hr']
    simp only [c0.out, c1, c2, c3, c4, Bool.true_and, Bool.false_and]
  clear hr'
  replace c4 := Aside0.mk c4
  rotate_left
  replace c4 := Aside0.mk c4
  obtain rfl : true = r := by
    rw [← hr']
    simp only [c0.out, c1, c2, c3, c4.out, Bool.true_and]
  clear hr'
  all_goals go_enter Try.func17, Try.ntmps17
  all_goals go_wp2_with ((first | ((with_reducible refine gate_guardG ?_); refine hp_guardLG rfl rfl ?_; (with_reducible first | refine go_tt ?_ | refine go_ff ?_ | refine go_tf ?_ | refine go_ft ?_)) | ((with_reducible refine gate_boxG ?_); (refine hp_boxG H rfl rfl rfl ?_; intro g_ W_ H_)) | ((with_reducible refine gate_loadG ?_); (refine hp_loadG H rfl rfl rfl (by repeat (first | exact .head _ | refine .tail _ ?_)) (by kernel_rfl) (by first | exact v_out _ | exact v_en _ | exact v_code _ | exact v_flt _ | exact v_mem _) ?_)) | ((with_reducible refine gate_dst (N := 9) rfl ?_); ((with_reducible refine gate_fnG ?_); (refine hp_goesG H rfl (f := 32) rfl Try.func32 (by kernel_rfl) rfl (eqB_c ((h.out.out).below H.below) ((k.out.out).below H.below) c0.out) (by (try simp only [List.map_toArray, List.map_cons, List.map_nil]); first | done | rfl) ?_; rintro e_ W_ ⟨rfl, hb_⟩; refine ⟨_, rfl, hb_, fun H_ => ?_⟩))) | ((with_reducible refine gate_dst (N := 36) rfl ?_); ((with_reducible refine gate_fnG ?_); (refine hp_goesG H rfl (f := 32) rfl Try.func32 (by kernel_rfl) rfl (eqB_c ((h.out.mem).below H.below) ((k.out.mem).below H.below) c4.out) (by (try simp only [List.map_toArray, List.map_cons, List.map_nil]); first | done | rfl) ?_; rintro e_ W_ ⟨rfl, hb_⟩; refine ⟨_, rfl, hb_, fun H_ => ?_⟩)))); (try (clear H; have H := H_; clear H_)); (try simp only [Act.put, List.setIfInBounds_toArray, List.set_cons_zero, List.set_cons_succ]))
  all_goals go_ret
  all_goals exact ⟨rfl, H.below⟩
end Go.Proofs.Ytcagccodmmcnfaa.Cpu
end
section
/- run.From: its contract. Own work; a template. -/
namespace Go.Proofs.Ytcagccodmmcnfaa.Cpu
open Go.RowKit Go.Proofs.YtcagccodmmcnfaaW.PrintWords Go.Proofs.YtcagccodmmcnfaaW.PrintLast Go.Proofs.YtcagccodmmcnfaaW.PrintMore Go.Proofs.Ytcagccodmmcnfaa.Hp Go.Proofs.Ytcagccodmmcnfaa.Q
set_option linter.unusedVariables false
set_option linter.unusedSimpArgs false
attribute [local go_sem] add_any max2_int min2_int max_two min_two
/-- What a run goes on from: enough for each of its steps. -/
structure RunOk (t : St) (m : Nat) : Prop where
  r0 : rd t.R 0 = 0
  byt : t.byt.length ≤ 1099511627776
  back : t.back.length + m ≤ 1099511627776
  inp : ∀ x ∈ t.inp, 0 ≤ x ∧ x ≤ 255
theorem RunOk.step {t : St} {m : Nat} {ws : List Int} (h : RunOk t (m + 1)) (he : t.en = false) : RunOk (t.step ws) m := by
  have ha := step_alone t ws h.r0 he _ rfl
  have hm := step_more t ws he
  exact ⟨ha.r0, by rw [ha.len]; exact h.byt, by have := hm.back; have := h.back; omega, fun x hx => h.inp x (hm.inp x hx)⟩
def FromIs (w : World) (s0 : SV) (t0 T : St) (m : Nat) (e : Ending) (w' : World) : Prop := ∃ s : SV, e = .returned (.tuple #[.agg s.c, .int .i64 (m : Int)]) ∧ (∀ W9, (∀ b, w.heap.size ≤ b → b < w'.heap.size → W9.heap[b]? = w'.heap[b]?) → Rd W9 s0 t0 → Rd W9 s T) ∧ Below w.heap.size w w'
theorem hp_storeFG {P : Program} {ops : Array Oper} {rest : List Oper} {o : Oper} {a : Act} {Q : Exit → Act → World → Prop} {w0 W : World} {L : List (Nat × Array Value × TypeId)} (H : Hp w0 W L) (hgd : o.guard = none) {ty : TypeId} {x y : Operand} (ho : o.op = .store ty x y) (hd : o.dst = none) {g off : Nat} (hx : a.eval x = .pointer (some ⟨g, off, none⟩)) {cs : Array Value} {t : TypeId} {n : Nat} (hn : L[n]? = some (g, cs, t))
    {v : Value} (hy : a.eval y = v) (hi : (P.info? ty).map (·.size) = some v.cells.size) (hfit : Nat.ble (off + v.cells.size) cs.size = true) (h1 : v.cells.toList.all (·.oneCell') = true) {cs' : Array Value} (hc : putSeg cs off v.cells.toList = cs')
    {L' : List (Nat × Array Value × TypeId)} (hL : setL L n cs' = L')
    (h : ∀ W', Hp w0 W' L' → (∀ b, b ≠ g → W'.heap[b]? = W.heap[b]?) → W'.heap.size = W.heap.size → wpList P ops (fun e a w => Q e a w) rest a W') : WpS P ops (fun e a w => Q e a w) (o :: rest) a W := ⟨hp_storeF H hgd ho hd hx hn hy hi hfit h1 hc hL h⟩
set_option maxHeartbeats 40000000 in
set_option maxRecDepth 100000 in
theorem from_c (A : Option Addr) (n c : Nat) (ws : List Int) (s : SV) (t : St) (f : Int) (kf : Nat) (w : World) (h : Aside0 (Rd w s t)) (hl : Aside0 (RdS .u32 w A n c ws)) (hws : Aside0 (∀ x ∈ ws, U32 x)) (ho : Aside0 (RunOk t kf)) (hf : (if f < 0 then 0 else f) = (kf : Int)) (hk : kf ≤ 10000000) :
    Calls Try.prog 15 #[.slice A n c, .agg s.c, .int .i64 f] w (FromIs w s t (fromF ws kf t).1 (fromF ws kf t).2) := by
  have H := Hp.nil w
  have hk2 : ¬ (10000000 : Int) < (kf : Int) := by omega
  go_enter Try.func15, Try.ntmps15
  go_wp2_with ((first | ((with_reducible refine gate_guardG ?_); refine hp_guardLG rfl rfl ?_; (with_reducible first | refine go_tt ?_ | refine go_ff ?_ | refine go_tf ?_ | refine go_ft ?_)) | ((with_reducible refine gate_dst (N := 4) rfl ?_); refine hp_box H rfl rfl rfl ?_; intro gs W_ H_; clear H; have H := H_; clear H_) | ((with_reducible refine gate_dst (N := 6) rfl ?_); refine hp_alloc H rfl rfl (fun w_ => by go_simp; rfl) ?_; intro gr W_ H_; clear H; have H := H_; clear H_)); (try simp only [Act.put, List.setIfInBounds_toArray, List.set_cons_zero, List.set_cons_succ]))
  have Hz : ∃ z : Array Value, z.size = 25 ∧ Hp w _ [(gr, z, 37), (gs, s.c, 37)] := ⟨_, rfl, H⟩
  clear H
  obtain ⟨z0, hz0, H⟩ := Hz
  replace hz0 := Aside0.mk hz0
  go_loopg [8, 12] kf (fun kq v8 v12 w' => ∃ (i : Nat) (s1 : SV) (t1 : St), v8 = .int .i64 (i : Int) ∧ v12 = .int .i64 (i : Int) ∧ Aside0 (i + kq = kf ∧ (fromF ws kf t).1 = (fromF ws kq t1).1 ∧ (fromF ws kf t).2 = i + (fromF ws kq t1).2) ∧ Aside0 (RunOk t1 kq) ∧ Aside0 (StG gs gr w w' s t s1 t1) ∧ Hp w w' [(gr, z0, 37), (gs, s1.c, 37)])
  case atStart => exact ⟨0, s, t, rfl, rfl, ⟨Nat.zero_add _, rfl, (Nat.zero_add _).symm⟩, ho, ⟨StG.start⟩, H⟩
  case round =>
    clear H
    obtain ⟨i, s1, t1, rfl, rfl, hik, hok, hst, H⟩ := hrel
    by_cases hlt : i < kf
    · have d0 : decide (i < kf) = true := decide_eq_true hlt
      obtain ⟨q, hq⟩ : ∃ q, gk = q + 1 := ⟨gk - 1, by have := hik.out.1; omega⟩
      subst hq
      cases hen : t1.en
      · have qe : Aside0 (s1.c[22]? = some (.bool false)) := ⟨by rw [g_en, (hst.out.now h.out H.below).en, hen]⟩
        replace hen := Aside0.mk hen
        have hw1 := Aside0.mk (w64n (i := i) (by omega))
        go_wp2_with ((first | ((with_reducible refine gate_guardG ?_); refine hp_guardLG rfl rfl ?_; (with_reducible first | refine go_tt ?_ | refine go_ff ?_ | refine go_tf ?_ | refine go_ft ?_)) | ((with_reducible refine gate_loadG ?_); (first | (refine hp_wholeG H rfl (ty := 37) rfl rfl (by repeat (first | exact .head _ | refine .tail _ ?_)) (by kernel_rfl) (by kernel_rfl) ?_))) | ((with_reducible refine gate_loadG ?_); (refine hp_loadG H rfl rfl rfl (by repeat (first | exact .head _ | refine .tail _ ?_)) (by kernel_rfl) (by first | exact qe.out) ?_)) | ((with_reducible refine gate_dst (N := 18) rfl ?_); (with_reducible refine gate_fnG ?_); have hgs0 := Aside0.mk (blk_lt (H.heap (g := gs) (cs := s1.c) (t := 37) (by repeat (first | exact .head _ | refine .tail _ ?_)))); have hgr0 := Aside0.mk (blk_lt (H.heap (g := gr) (cs := z0) (t := 37) (by repeat (first | exact .head _ | refine .tail _ ?_)))); have hbw := Aside0.mk H.below.size; refine hp_goesG H rfl (f := 29) rfl Try.func29 (by kernel_rfl) rfl (step_c s1 t1 A n c ws _ (hst.out.now h.out H.below) (hl.out.below H.below) hws.out hok.out.byt (by have := hok.out.back; omega) hok.out.inp) (by (try simp only [List.map_toArray, List.map_cons, List.map_nil]); first | done | rfl) ?_; rintro e_ W_ ⟨s2, rfl, hr2, hb_⟩; replace hr2 := Aside0.mk hr2; replace hb_ := Aside0.mk hb_; refine ⟨_, rfl, hb_.out, fun H_ => ?_⟩) | ((with_reducible refine gate_storeG ?_); refine hp_storeFG H rfl rfl rfl rfl (n := 1) rfl rfl (by kernel_rfl) (by rfl) (by rfl) (sv_all _ rfl) rfl ?_; intro W_ H_ hf_ hz_; replace hf_ := Aside0.mk hf_; replace hz_ := Aside0.mk hz_; clear H; have H := H_; clear H_)); (try (clear H; have H := H_; clear H_)); (try simp only [Act.put, List.setIfInBounds_toArray, List.set_cons_zero, List.set_cons_succ]))
        go_roundg q
        case measure => omega
        case rel => exact ⟨i + 1, s2, t1.step ws, (by first | exact congrArg (Value.int .i64) hw1.out | exact congrArg (Value.int .i64) (by omega)), (by first | exact congrArg (Value.int .i64) hw1.out | exact congrArg (Value.int .i64) (by omega)), ⟨by have := hik.out.1; omega, by rw [hik.out.2.1, from_succ (by rw [hen.out]; simp)], by rw [hik.out.2.2, from_succ (by rw [hen.out]; simp)]; show i + (_ + 1) = i + 1 + _; omega⟩, ⟨hok.out.step hen.out⟩, ⟨hst.out.step hbw.out hgs0.out hgr0.out hb_.out hr2.out hf_.out hz_.out⟩, H⟩
      · have qe : Aside0 (s1.c[22]? = some (.bool true)) := ⟨by rw [g_en, (hst.out.now h.out H.below).en, hen]⟩
        have e1 : (fromF ws kf t).1 = t1 := by rw [hik.out.2.1, from_ended hen]
        have e2 : (fromF ws kf t).2 = i := by rw [hik.out.2.2, from_ended hen]; rfl
        replace e1 := Aside0.mk e1
        replace e2 := Aside0.mk e2
        go_wp2_with ((first | ((with_reducible refine gate_guardG ?_); refine hp_guardLG rfl rfl ?_; (with_reducible first | refine go_tt ?_ | refine go_ff ?_ | refine go_tf ?_ | refine go_ft ?_)) | ((with_reducible refine gate_loadG ?_); (first | (refine hp_wholeG H rfl (ty := 37) rfl rfl (by repeat (first | exact .head _ | refine .tail _ ?_)) (by kernel_rfl) (by kernel_rfl) ?_))) | ((with_reducible refine gate_loadG ?_); (refine hp_loadG H rfl rfl rfl (by repeat (first | exact .head _ | refine .tail _ ?_)) (by kernel_rfl) (by first | exact qe.out) ?_)) | ((with_reducible refine gate_storeG ?_); refine hp_storeFG H rfl rfl rfl rfl (n := 0) rfl rfl (by kernel_rfl) (by rw [hz0.out]; rfl) (by rfl) (sv_all _ hz0.out) rfl ?_; intro W_ H_ hf_ hz_; replace hf_ := Aside0.mk hf_; replace hz_ := Aside0.mk hz_; clear H; have H := H_; clear H_)); (try simp only [Act.put, List.setIfInBounds_toArray, List.set_cons_zero, List.set_cons_succ]))
        have hgs1 := (H.blk _ (.tail _ (.head _))).1
        exact bodyPost_ret (hp_results2 rfl _ _ _ 37 _ (.int .i64 (i : Int)) rfl rfl (H.heap (.head _)) (by kernel_rfl) (by kernel_rfl)) rfl ⟨s1, by rw [e2.out], fun W9 hm h0 => e1.out.symm ▸ hst.out W9 (fun b h1 h2 h3 h4 => (hm b h1 (by rw [hz_.out]; exact h4)).trans (hf_.out b h3)) h0, H.below⟩
    · have d0 : decide (i < kf) = false := decide_eq_false hlt
      have hg0 : gk = 0 := by have := hik.out.1; omega
      subst hg0
      have e1 : (fromF ws kf t).1 = t1 := by rw [hik.out.2.1]; rfl
      have e2 : (fromF ws kf t).2 = i := by rw [hik.out.2.2]; rfl
      replace e1 := Aside0.mk e1
      replace e2 := Aside0.mk e2
      go_wp2_with ((first | ((with_reducible refine gate_guardG ?_); refine hp_guardLG rfl rfl ?_; (with_reducible first | refine go_tt ?_ | refine go_ff ?_ | refine go_tf ?_ | refine go_ft ?_)) | ((with_reducible refine gate_loadG ?_); (first | (refine hp_wholeG H rfl (ty := 37) rfl rfl (by repeat (first | exact .head _ | refine .tail _ ?_)) (by kernel_rfl) (by kernel_rfl) ?_))) | ((with_reducible refine gate_storeG ?_); refine hp_storeFG H rfl rfl rfl rfl (n := 0) rfl rfl (by kernel_rfl) (by rw [hz0.out]; rfl) (by rfl) (sv_all _ hz0.out) rfl ?_; intro W_ H_ hf_ hz_; replace hf_ := Aside0.mk hf_; replace hz_ := Aside0.mk hz_; clear H; have H := H_; clear H_)); (try simp only [Act.put, List.setIfInBounds_toArray, List.set_cons_zero, List.set_cons_succ]))
      have hgs1 := (H.blk _ (.tail _ (.head _))).1
      exact bodyPost_ret (hp_results2 rfl _ _ _ 37 _ (.int .i64 (i : Int)) rfl rfl (H.heap (.head _)) (by kernel_rfl) (by kernel_rfl)) rfl ⟨s1, by rw [e2.out], fun W9 hm h0 => e1.out.symm ▸ hst.out W9 (fun b h1 h2 h3 h4 => (hm b h1 (by rw [hz_.out]; exact h4)).trans (hf_.out b h3)) h0, H.below⟩
end Go.Proofs.Ytcagccodmmcnfaa.Cpu
end
section
/- run.Do: its contract. Own work; a template. -/
namespace Go.Proofs.Ytcagccodmmcnfaa.Cpu
open Go.RowKit Go.Proofs.YtcagccodmmcnfaaW.PrintWords Go.Proofs.YtcagccodmmcnfaaW.PrintLast Go.Proofs.YtcagccodmmcnfaaW.PrintMore Go.Proofs.Ytcagccodmmcnfaa.Hp Go.Proofs.Ytcagccodmmcnfaa.Q
set_option linter.unusedVariables false
set_option linter.unusedSimpArgs false
attribute [local go_sem] add_any
theorem hs_alloc {P : Program} {ops : Array Oper} {o : Oper} {a : Act} {K : Act → World → Prop} {Q : Exit → Act → World → Prop} {E : Prop} {w0 W : World} {L : List (Nat × Array Value × TypeId)} (H : Hp w0 W L) (hgd : o.guard = none) {t : TypeId} (ho : o.op = .alloc t) {z : Value} (hz : ∀ w, (zeroValue t).run P w = .ok z w)
    (h : ∀ g W', Hp w0 W' ((g, z.cells, t) :: L) → Below W.heap.size W W' → W.heap.size ≤ g → g < W'.heap.size → K (a.put o.dst (.pointer (some ⟨g, 0, none⟩))) W') : if Region.wanted o (yielded ops a.tmps) = true then Oper.wp P o a W K Q else E := by
  rw [if_pos (by simp [Region.wanted, hgd])]
  unfold Oper.wp execOp
  simp [ho, Instr.alloc, hz, newVar, newRow, Sem.run_bind]
  exact h _ _ (H.alloc z.cells t) (below_alloc (Below.refl _ _) _) (Nat.le_refl _) (by simp)
/-- What a run tells. -/
def runF (lc : List Int) (t : St) (k : Nat) : Tr := ⟨(fromF lc k t).1.out, (fromF lc k t).1.en, (fromF lc k t).1.code, (fromF lc k t).1.flt, (fromF lc k t).1.byt, ((fromF lc k t).2 : Int)⟩
def DoIs (w : World) (T : Tr) (e : Ending) (w' : World) : Prop := ∃ s : TV, e = .returned (.agg s.c) ∧ (∀ W9, (∀ b, w.heap.size ≤ b → b < w'.heap.size → W9.heap[b]? = w'.heap[b]?) → RdT W9 s T) ∧ Below w.heap.size w w'
/-- .. and its memory is new. -/
def DoIs2 (w : World) (T : Tr) (e : Ending) (w' : World) : Prop := ∃ s : TV, e = .returned (.agg s.c) ∧ (∀ W9, (∀ b, w.heap.size ≤ b → b < w'.heap.size → W9.heap[b]? = w'.heap[b]?) → RdT W9 s T) ∧ w'.ownsRow w.heap.size 5 1 (.slice s.mem.a s.mem.n s.mem.c) s.mem.n (nums .u8 T.mem) ∧ Below w.heap.size w w'
theorem own_weak {W : World} {base b2 e n c : Nat} {A : Option Addr} {k : IntKind} {l : List Int} (h : W.ownsRow base e 1 (.slice A n c) n (nums k l)) (hb : b2 ≤ base) : W.ownsRow b2 e 1 (.slice A n c) n (nums k l) := by
  obtain ⟨hl, h | ⟨g, cap, cur, hv, hg, r⟩⟩ := h
  · exact ⟨hl, .inl h⟩
  · exact ⟨hl, .inr ⟨g, cap, cur, hv, Nat.le_trans hb hg, r⟩⟩
set_option maxHeartbeats 8000000 in
set_option maxRecDepth 100000 in
theorem do_own_c (mv : IM) (mm : Nat) (hm : mv.more = (mm : Int)) (A : Option Addr) (n c : Nat) (lc ld l : List Int) (f : Int) (kf : Nat) (w : World) (hc : Aside0 (RdS .u32 w mv.code.a mv.code.n mv.code.c lc)) (hcu : Aside0 (∀ x ∈ lc, U32 x)) (hd : Aside0 (RdS .u8 w mv.data.a mv.data.n mv.data.c ld)) (hi : Aside0 (RdS .u8 w A n c l)) (hiu : Aside0 (∀ x ∈ l, 0 ≤ x ∧ x ≤ 255)) (hb1 : Aside0 (mv.data.n + mm ≤ 1099511627776)) (hb2 : Aside0 (n ≤ 1099511627776)) (hf : (if f < 0 then 0 else f) = (kf : Int)) (hk : kf ≤ 10000000)
    (hbo : Aside0 (∀ k, (fromF lc k (newT mv.entry mv.write ld mm l)).1.out.length ≤ 140737488355328)) :
    Calls Try.prog 10 #[.agg mv.c, .slice A n c, .int .i64 f] w (DoIs2 w (runF lc (newT mv.entry mv.write ld mm l) kf)) := by
  obtain ⟨⟨Ac, nc, cc⟩, entry, ⟨Ad, nd, cd⟩, write, more⟩ := mv
  simp only at hm hc hd hb1 hbo
  subst hm
  have H := Hp.nil w
  go_enter Try.func10, Try.ntmps10
  go_wp2_with ((first | ((with_reducible refine gate_guardG ?_); refine hp_guardLG rfl rfl ?_; (with_reducible first | refine go_tt ?_ | refine go_ff ?_ | refine go_tf ?_ | refine go_ft ?_)) | ((with_reducible refine gate_dst (N := 3) rfl ?_); refine hp_box H rfl rfl rfl ?_; intro gm W_ H_; clear H; have H := H_; clear H_) | ((with_reducible refine gate_dst (N := 6) rfl ?_); refine hp_alloc H rfl rfl (fun w_ => by go_simp; rfl) ?_; intro gr W_ H_; clear H; have H := H_; clear H_)); (try simp only [Act.put, List.setIfInBounds_toArray, List.set_cons_zero, List.set_cons_succ]))
  have Hz : ∃ z : Array Value, z.size = 6 ∧ Hp w _ [(gr, z, 30), (gm, IM.c ⟨⟨Ac, nc, cc⟩, entry, ⟨Ad, nd, cd⟩, write, (mm : Int)⟩, 25)] := ⟨_, rfl, H⟩
  clear H
  obtain ⟨z0, hz0, H⟩ := Hz
  replace hz0 := Aside0.mk hz0
  replace H := H.drew
  refine wp_region_held_drew (S := fun W' => ∃ z : Array Value, z.size = 6 ∧ Hp w W' [(gr, z, 30), (gm, IM.c ⟨⟨Ac, nc, cc⟩, entry, ⟨Ad, nd, cd⟩, write, (mm : Int)⟩, 25)]) (by kernel_rfl) ⟨z0, hz0.out, H⟩ (fun hHeld => ?_)
  change wpAnyH _ _ _ _ _ 13 (Array.replicate 13 false) _ _
  (refine hk_take (i := 0) (v := ?_) rfl (by kernel_rfl) (by kernel_rfl) (by kernel_rfl) (fun _ _ _ h => h) (Or.inl ⟨by rfl, ?_⟩) hHeld ?_; rotate_left 1; (intro w_ hSw_; go_simp; with_reducible rfl); (try simp only [Act.put, List.setIfInBounds_toArray, List.set_cons_zero, List.set_cons_succ]))
  (refine hk_take (i := 1) rfl (by kernel_rfl) (by kernel_rfl) (by kernel_rfl) (fun _ _ _ h => h) (yl_load rfl rfl rfl (fun w_ ⟨x_, _, H_⟩ => H_.heap (by repeat (first | exact .head _ | refine .tail _ ?_))) (by kernel_rfl) (m_code ⟨⟨Ac, nc, cc⟩, entry, ⟨Ad, nd, cd⟩, write, (mm : Int)⟩)) hHeld ?_; (try simp only [Act.put, List.setIfInBounds_toArray, List.set_cons_zero, List.set_cons_succ]))
  (refine hk_take (i := 2) rfl (by kernel_rfl) (by kernel_rfl) (by kernel_rfl) (fun _ _ _ h => h) (yl_whole rfl rfl (ty := 25) rfl (fun w_ ⟨x_, _, H_⟩ => H_.heap (by repeat (first | exact .head _ | refine .tail _ ?_))) (by kernel_rfl) (by kernel_rfl)) hHeld ?_; (try simp only [Act.put, List.setIfInBounds_toArray, List.set_cons_zero, List.set_cons_succ]))
  (refine hk_take (i := 3) (v := ?_) rfl (by kernel_rfl) (by kernel_rfl) (by kernel_rfl) (fun _ _ _ h => h) (Or.inl ⟨by rfl, ?_⟩) hHeld ?_; rotate_left 1; (intro w_ hSw_; go_simp; with_reducible rfl); (try simp only [Act.put, List.setIfInBounds_toArray, List.set_cons_zero, List.set_cons_succ])); (refine hk_take (i := 5) (v := ?_) rfl (by kernel_rfl) (by kernel_rfl) (by kernel_rfl) (fun _ _ _ h => h) (Or.inl ⟨by rfl, ?_⟩) hHeld ?_; rotate_left 1; (intro w_ hSw_; go_simp; with_reducible rfl); (try simp only [Act.put, List.setIfInBounds_toArray, List.set_cons_zero, List.set_cons_succ]))
  refine hk_op2 (i := 4) (j := 10) rfl rfl (by kernel_rfl) (fun K hK => ?_) (fun K hK => ?_)
  refine hs_goes0 rfl (f := 19) rfl Try.func19 (by kernel_rfl) rfl (new_c Ac nc cc entry Ad nd cd write mm A n c ld l _ ⟨hd.out.below H.below⟩ ⟨hi.out.below H.below⟩ (by have := hb1.out; omega) (by have := hb2.out; omega)) (by (try simp only [List.map_toArray, List.map_cons, List.map_nil]); first | done | rfl) ?_
  rintro e_ W_ ⟨s1, rfl, hr1, hb1_⟩
  refine ⟨_, rfl, ?_⟩
  replace hr1 := Aside0.mk hr1
  replace hb1_ := Aside0.mk hb1_
  replace H := H.call hb1_.out
  have hR1 := Aside0.mk (hr1.out _ (fun _ _ _ => rfl))
  refine hK.out _ _ ⟨z0, hz0.out, H⟩ (fun hHeld => ?_)
  clear hK K
  (try simp only [Act.put, List.setIfInBounds_toArray, List.set_cons_zero, List.set_cons_succ])
  refine hk_op2 (i := 6) (j := 10) rfl rfl (by kernel_rfl) (fun K hK => ?_) (fun K hK => ?_)
  refine hs_goes0 rfl (f := 15) rfl Try.func15 (by kernel_rfl) rfl (from_c Ac nc cc lc s1 (newT entry write ld mm l) f kf _ ⟨hR1.out⟩ ⟨hc.out.below H.below⟩ hcu ⟨⟨rfl, by show (ld ++ List.replicate mm 0).length ≤ _; rw [List.length_append, List.length_replicate]; have := hb1.out; have := hd.out.1; omega, by show 0 + kf ≤ _; omega, hiu.out⟩⟩ hf hk) (by (try simp only [List.map_toArray, List.map_cons, List.map_nil]); first | done | rfl) ?_
  rintro e_ W_ ⟨s2, rfl, hr2, hb2_⟩
  refine ⟨_, rfl, ?_⟩
  replace hr2 := Aside0.mk hr2
  replace hb2_ := Aside0.mk hb2_
  replace H := H.call hb2_.out
  refine hK.out _ _ ⟨z0, hz0.out, H⟩ (fun hHeld => ?_)
  clear hK K
  (try simp only [Act.put, List.setIfInBounds_toArray, List.set_cons_zero, List.set_cons_succ])
  (refine hk_take (i := 7) (v := ?_) rfl (by kernel_rfl) (by kernel_rfl) (by kernel_rfl) (fun _ _ _ h => h) (Or.inl ⟨by rfl, ?_⟩) hHeld ?_; rotate_left 1; (intro w_ hSw_; go_simp; with_reducible rfl); (try simp only [Act.put, List.setIfInBounds_toArray, List.set_cons_zero, List.set_cons_succ])); (refine hk_take (i := 8) (v := ?_) rfl (by kernel_rfl) (by kernel_rfl) (by kernel_rfl) (fun _ _ _ h => h) (Or.inl ⟨by rfl, ?_⟩) hHeld ?_; rotate_left 1; (intro w_ hSw_; go_simp; with_reducible rfl); (try simp only [Act.put, List.setIfInBounds_toArray, List.set_cons_zero, List.set_cons_succ])); (refine hk_take (i := 9) (v := ?_) rfl (by kernel_rfl) (by kernel_rfl) (by kernel_rfl) (fun _ _ _ h => h) (Or.inl ⟨by rfl, ?_⟩) hHeld ?_; rotate_left 1; (intro w_ hSw_; go_simp; with_reducible rfl); (try simp only [Act.put, List.setIfInBounds_toArray, List.set_cons_zero, List.set_cons_succ]))
  (refine hk_op (i := 10) rfl (by kernel_rfl) (fun K hK => ?_))
  refine hs_alloc H rfl rfl (fun w_ => by go_simp; rfl) ?_
  intro g7 W_ H_ hba_ hg7a hg7b
  replace hba_ := Aside0.mk hba_
  replace hg7a := Aside0.mk hg7a
  replace hg7b := Aside0.mk hg7b
  clear H
  have H := H_
  clear H_
  refine hK.out _ _ ⟨z0, hz0.out, H.sub (.cons _ (.refl _))⟩ (fun hHeld => ?_)
  clear hK K
  (try simp only [Act.put, List.setIfInBounds_toArray, List.set_cons_zero, List.set_cons_succ])
  have hR : Aside0 (∀ W9 : World, (∀ b, b ≠ g7 → b < W_.heap.size → W9.heap[b]? = W_.heap[b]?) → Rd W9 s2 (fromF lc kf (newT entry write ld mm l)).1) := ⟨fun W9 hm => by
    have z1 := hb1_.out.size
    have z2 := hb2_.out.size
    have z3 := hba_.out.size
    have z4 := hg7a.out
    have z5 := hg7b.out
    exact hr2.out W9 (fun b h1 h2 => (hm b (by omega) (by omega)).trans (hba_.out.block b h2)) (hr1.out W9 (fun b h1 h2 => (hm b (by omega) (by omega)).trans ((hba_.out.block b (by omega)).trans (hb2_.out.block b h2))))⟩
  rotate_left
  refine hs_alloc H rfl rfl (fun w_ => by go_simp; rfl) ?_
  intro g7 W_ H_ hba_ hg7a hg7b
  replace hba_ := Aside0.mk hba_
  replace hg7a := Aside0.mk hg7a
  replace hg7b := Aside0.mk hg7b
  clear H
  have H := H_
  clear H_
  refine hK.out _ _ ⟨z0, hz0.out, H.sub (.cons _ (.refl _))⟩ (fun hHeld => ?_)
  clear hK K
  (try simp only [Act.put, List.setIfInBounds_toArray, List.set_cons_zero, List.set_cons_succ])
  (refine hk_op (i := 6) rfl (by kernel_rfl) (fun K hK => ?_))
  refine hs_goes0 rfl (f := 15) rfl Try.func15 (by kernel_rfl) rfl (from_c Ac nc cc lc s1 (newT entry write ld mm l) f kf _ ⟨hR1.out.below hba_.out⟩ ⟨hc.out.below H.below⟩ hcu ⟨⟨rfl, by show (ld ++ List.replicate mm 0).length ≤ _; rw [List.length_append, List.length_replicate]; have := hb1.out; have := hd.out.1; omega, by show 0 + kf ≤ _; omega, hiu.out⟩⟩ hf hk) (by (try simp only [List.map_toArray, List.map_cons, List.map_nil]); first | done | rfl) ?_
  rintro e_ W_ ⟨s2, rfl, hr2, hb2_⟩
  refine ⟨_, rfl, ?_⟩
  replace hr2 := Aside0.mk hr2
  replace hb2_ := Aside0.mk hb2_
  replace H := H.call hb2_.out
  refine hK.out _ _ ⟨z0, hz0.out, H.sub (.cons _ (.refl _))⟩ (fun hHeld => ?_)
  clear hK K
  (try simp only [Act.put, List.setIfInBounds_toArray, List.set_cons_zero, List.set_cons_succ])
  (refine hk_take (i := 7) (v := ?_) rfl (by kernel_rfl) (by kernel_rfl) (by kernel_rfl) (fun _ _ _ h => h) (Or.inl ⟨by rfl, ?_⟩) hHeld ?_; rotate_left 1; (intro w_ hSw_; go_simp; with_reducible rfl); (try simp only [Act.put, List.setIfInBounds_toArray, List.set_cons_zero, List.set_cons_succ])); (refine hk_take (i := 8) (v := ?_) rfl (by kernel_rfl) (by kernel_rfl) (by kernel_rfl) (fun _ _ _ h => h) (Or.inl ⟨by rfl, ?_⟩) hHeld ?_; rotate_left 1; (intro w_ hSw_; go_simp; with_reducible rfl); (try simp only [Act.put, List.setIfInBounds_toArray, List.set_cons_zero, List.set_cons_succ])); (refine hk_take (i := 9) (v := ?_) rfl (by kernel_rfl) (by kernel_rfl) (by kernel_rfl) (fun _ _ _ h => h) (Or.inl ⟨by rfl, ?_⟩) hHeld ?_; rotate_left 1; (intro w_ hSw_; go_simp; with_reducible rfl); (try simp only [Act.put, List.setIfInBounds_toArray, List.set_cons_zero, List.set_cons_succ]))
  have hR : Aside0 (∀ W9 : World, (∀ b, b ≠ g7 → b < W_.heap.size → W9.heap[b]? = W_.heap[b]?) → Rd W9 s2 (fromF lc kf (newT entry write ld mm l)).1) := ⟨fun W9 hm => by
    have z1 := hb1_.out.size
    have z2 := hb2_.out.size
    have z3 := hba_.out.size
    have z4 := hg7a.out
    have z5 := hg7b.out
    exact hr2.out W9 (fun b h1 h2 => hm b (by omega) h2) (hr1.out W9 (fun b h1 h2 => (hm b (by omega) (by omega)).trans ((hb2_.out.block b (by omega)).trans (hba_.out.block b h2))))⟩
  rotate_left
  refine hs_alloc H rfl rfl (fun w_ => by go_simp; rfl) ?_
  intro g7 W_ H_ hba_ hg7a hg7b
  replace hba_ := Aside0.mk hba_
  replace hg7a := Aside0.mk hg7a
  replace hg7b := Aside0.mk hg7b
  clear H
  have H := H_
  clear H_
  refine hK.out _ _ ⟨z0, hz0.out, H.sub (.cons _ (.refl _))⟩ (fun hHeld => ?_)
  clear hK K
  (try simp only [Act.put, List.setIfInBounds_toArray, List.set_cons_zero, List.set_cons_succ])
  (refine hk_op (i := 4) rfl (by kernel_rfl) (fun K hK => ?_))
  refine hs_goes0 rfl (f := 19) rfl Try.func19 (by kernel_rfl) rfl (new_c Ac nc cc entry Ad nd cd write mm A n c ld l _ ⟨hd.out.below H.below⟩ ⟨hi.out.below H.below⟩ (by have := hb1.out; omega) (by have := hb2.out; omega)) (by (try simp only [List.map_toArray, List.map_cons, List.map_nil]); first | done | rfl) ?_
  rintro e_ W_ ⟨s1, rfl, hr1, hb1_⟩
  refine ⟨_, rfl, ?_⟩
  replace hr1 := Aside0.mk hr1
  replace hb1_ := Aside0.mk hb1_
  replace H := H.call hb1_.out
  have hR1 := Aside0.mk (hr1.out _ (fun _ _ _ => rfl))
  refine hK.out _ _ ⟨z0, hz0.out, H.sub (.cons _ (.refl _))⟩ (fun hHeld => ?_)
  clear hK K
  (try simp only [Act.put, List.setIfInBounds_toArray, List.set_cons_zero, List.set_cons_succ])
  (refine hk_op (i := 6) rfl (by kernel_rfl) (fun K hK => ?_))
  refine hs_goes0 rfl (f := 15) rfl Try.func15 (by kernel_rfl) rfl (from_c Ac nc cc lc s1 (newT entry write ld mm l) f kf _ ⟨hR1.out⟩ ⟨hc.out.below H.below⟩ hcu ⟨⟨rfl, by show (ld ++ List.replicate mm 0).length ≤ _; rw [List.length_append, List.length_replicate]; have := hb1.out; have := hd.out.1; omega, by show 0 + kf ≤ _; omega, hiu.out⟩⟩ hf hk) (by (try simp only [List.map_toArray, List.map_cons, List.map_nil]); first | done | rfl) ?_
  rintro e_ W_ ⟨s2, rfl, hr2, hb2_⟩
  refine ⟨_, rfl, ?_⟩
  replace hr2 := Aside0.mk hr2
  replace hb2_ := Aside0.mk hb2_
  replace H := H.call hb2_.out
  refine hK.out _ _ ⟨z0, hz0.out, H.sub (.cons _ (.refl _))⟩ (fun hHeld => ?_)
  clear hK K
  (try simp only [Act.put, List.setIfInBounds_toArray, List.set_cons_zero, List.set_cons_succ])
  (refine hk_take (i := 7) (v := ?_) rfl (by kernel_rfl) (by kernel_rfl) (by kernel_rfl) (fun _ _ _ h => h) (Or.inl ⟨by rfl, ?_⟩) hHeld ?_; rotate_left 1; (intro w_ hSw_; go_simp; with_reducible rfl); (try simp only [Act.put, List.setIfInBounds_toArray, List.set_cons_zero, List.set_cons_succ])); (refine hk_take (i := 8) (v := ?_) rfl (by kernel_rfl) (by kernel_rfl) (by kernel_rfl) (fun _ _ _ h => h) (Or.inl ⟨by rfl, ?_⟩) hHeld ?_; rotate_left 1; (intro w_ hSw_; go_simp; with_reducible rfl); (try simp only [Act.put, List.setIfInBounds_toArray, List.set_cons_zero, List.set_cons_succ])); (refine hk_take (i := 9) (v := ?_) rfl (by kernel_rfl) (by kernel_rfl) (by kernel_rfl) (fun _ _ _ h => h) (Or.inl ⟨by rfl, ?_⟩) hHeld ?_; rotate_left 1; (intro w_ hSw_; go_simp; with_reducible rfl); (try simp only [Act.put, List.setIfInBounds_toArray, List.set_cons_zero, List.set_cons_succ]))
  have hR : Aside0 (∀ W9 : World, (∀ b, b ≠ g7 → b < W_.heap.size → W9.heap[b]? = W_.heap[b]?) → Rd W9 s2 (fromF lc kf (newT entry write ld mm l)).1) := ⟨fun W9 hm => by
    have z1 := hb1_.out.size
    have z2 := hb2_.out.size
    have z3 := hba_.out.size
    have z4 := hg7a.out
    have z5 := hg7b.out
    exact hr2.out W9 (fun b h1 h2 => hm b (by omega) h2) (hr1.out W9 (fun b h1 h2 => (hm b (by omega) (by omega)).trans (hb2_.out.block b h2)))⟩
  rotate_left
  all_goals clear hr1 hr2 hb1_ hb2_ hba_ hg7a hg7b hR1
  all_goals (refine hk_op (i := 11) rfl (by kernel_rfl) (fun K hK => ?_))
  all_goals refine hs_storeF H rfl rfl rfl rfl (n := 0) rfl rfl (by kernel_rfl) (by rfl) (by rfl) (sv_all s2 rfl) rfl ?_
  all_goals intro W5_ H_ hf_ hz_
  all_goals clear H
  all_goals have H := H_
  all_goals clear H_
  all_goals have hR5 : Aside0 (∀ W9 : World, (∀ b, b ≠ g7 → b < W5_.heap.size → W9.heap[b]? = W5_.heap[b]?) → Rd W9 s2 (fromF lc kf (newT entry write ld mm l)).1) := ⟨fun W9 hm => hR.out W9 (fun b h1 h2 => (hm b h1 (by rw [hz_]; exact h2)).trans (hf_ b h1))⟩
  all_goals clear hR hf_ hz_
  all_goals refine hK.out _ _ ⟨z0, hz0.out, H.sub (.cons _ (.refl _))⟩ (fun hHeld => ?_)
  all_goals clear hK K
  all_goals (try simp only [Act.put, List.setIfInBounds_toArray, List.set_cons_zero, List.set_cons_succ])
  all_goals ((refine hk_take (i := 12) (v := ?_) rfl (by kernel_rfl) (by kernel_rfl) (by kernel_rfl) (fun _ _ _ h => h) (Or.inl ⟨by rfl, ?_⟩) hHeld ?_; rotate_left 1; (intro w_ hSw_; go_simp; with_reducible rfl); (try simp only [Act.put, List.setIfInBounds_toArray, List.set_cons_zero, List.set_cons_succ])))
  all_goals (refine wpAnyH_done (by kernel_rfl) ?_ _)
  all_goals go_wp2_with ((first | ((with_reducible refine gate_guardG ?_); refine hp_guardLG rfl rfl ?_; (with_reducible first | refine go_tt ?_ | refine go_ff ?_ | refine go_tf ?_ | refine go_ft ?_))); (try simp only [Act.put, List.setIfInBounds_toArray, List.set_cons_zero, List.set_cons_succ]))
  all_goals
    refine wp_region_held_drew (S := fun W' => ∃ z : Array Value, z.size = 6 ∧ Hp w W' [(g7, s2.c, 37), (gr, z, 30), (gm, IM.c ⟨⟨Ac, nc, cc⟩, entry, ⟨Ad, nd, cd⟩, write, (mm : Int)⟩, 25)]) (by kernel_rfl) ⟨z0, hz0.out, H.drew⟩ (fun hHeld => ?_)
    replace H : Hp w W5_.drew [(g7, s2.c, 37), (gr, z0, 30), (gm, IM.c ⟨⟨Ac, nc, cc⟩, entry, ⟨Ad, nd, cd⟩, write, (mm : Int)⟩, 25)] := H.drew
    have hRn := Aside0.mk (hR5.out W5_.drew (fun _ _ _ => rfl))
    clear hR5
    change wpAnyH _ _ _ _ _ 16 (Array.replicate 16 false) _ _
    (refine hk_take (i := 0) (v := ?_) rfl (by kernel_rfl) (by kernel_rfl) (by kernel_rfl) (fun _ _ _ h => h) (Or.inl ⟨by rfl, ?_⟩) hHeld ?_; rotate_left 1; (intro w_ hSw_; go_simp; with_reducible rfl); (try simp only [Act.put, List.setIfInBounds_toArray, List.set_cons_zero, List.set_cons_succ]))
    (refine hk_take (i := 1) rfl (by kernel_rfl) (by kernel_rfl) (by kernel_rfl) (fun _ _ _ h => h) (yl_load rfl rfl rfl (fun w_ ⟨x_, _, H_⟩ => H_.heap (by repeat (first | exact .head _ | refine .tail _ ?_))) (by kernel_rfl) (g_out s2)) hHeld ?_; (try simp only [Act.put, List.setIfInBounds_toArray, List.set_cons_zero, List.set_cons_succ]))
    (refine hk_take (i := 3) (v := ?_) rfl (by kernel_rfl) (by kernel_rfl) (by kernel_rfl) (fun _ _ _ h => h) (Or.inl ⟨by rfl, ?_⟩) hHeld ?_; rotate_left 1; (intro w_ hSw_; go_simp; with_reducible rfl); (try simp only [Act.put, List.setIfInBounds_toArray, List.set_cons_zero, List.set_cons_succ]))
    (refine hk_take (i := 4) rfl (by kernel_rfl) (by kernel_rfl) (by kernel_rfl) (fun _ _ _ h => h) (yl_load rfl rfl rfl (fun w_ ⟨x_, _, H_⟩ => H_.heap (by repeat (first | exact .head _ | refine .tail _ ?_))) (by kernel_rfl) (g_en s2)) hHeld ?_; (try simp only [Act.put, List.setIfInBounds_toArray, List.set_cons_zero, List.set_cons_succ]))
    (refine hk_take (i := 5) (v := ?_) rfl (by kernel_rfl) (by kernel_rfl) (by kernel_rfl) (fun _ _ _ h => h) (Or.inl ⟨by rfl, ?_⟩) hHeld ?_; rotate_left 1; (intro w_ hSw_; go_simp; with_reducible rfl); (try simp only [Act.put, List.setIfInBounds_toArray, List.set_cons_zero, List.set_cons_succ]))
    (refine hk_take (i := 6) rfl (by kernel_rfl) (by kernel_rfl) (by kernel_rfl) (fun _ _ _ h => h) (yl_load rfl rfl rfl (fun w_ ⟨x_, _, H_⟩ => H_.heap (by repeat (first | exact .head _ | refine .tail _ ?_))) (by kernel_rfl) (g_code s2)) hHeld ?_; (try simp only [Act.put, List.setIfInBounds_toArray, List.set_cons_zero, List.set_cons_succ]))
    (refine hk_take (i := 7) (v := ?_) rfl (by kernel_rfl) (by kernel_rfl) (by kernel_rfl) (fun _ _ _ h => h) (Or.inl ⟨by rfl, ?_⟩) hHeld ?_; rotate_left 1; (intro w_ hSw_; go_simp; with_reducible rfl); (try simp only [Act.put, List.setIfInBounds_toArray, List.set_cons_zero, List.set_cons_succ]))
    (refine hk_take (i := 8) rfl (by kernel_rfl) (by kernel_rfl) (by kernel_rfl) (fun _ _ _ h => h) (yl_load rfl rfl rfl (fun w_ ⟨x_, _, H_⟩ => H_.heap (by repeat (first | exact .head _ | refine .tail _ ?_))) (by kernel_rfl) (g_flt s2)) hHeld ?_; (try simp only [Act.put, List.setIfInBounds_toArray, List.set_cons_zero, List.set_cons_succ]))
    (refine hk_take (i := 9) (v := ?_) rfl (by kernel_rfl) (by kernel_rfl) (by kernel_rfl) (fun _ _ _ h => h) (Or.inl ⟨by rfl, ?_⟩) hHeld ?_; rotate_left 1; (intro w_ hSw_; go_simp; with_reducible rfl); (try simp only [Act.put, List.setIfInBounds_toArray, List.set_cons_zero, List.set_cons_succ])); (refine hk_take (i := 10) (v := ?_) rfl (by kernel_rfl) (by kernel_rfl) (by kernel_rfl) (fun _ _ _ h => h) (Or.inl ⟨by rfl, ?_⟩) hHeld ?_; rotate_left 1; (intro w_ hSw_; go_simp; with_reducible rfl); (try simp only [Act.put, List.setIfInBounds_toArray, List.set_cons_zero, List.set_cons_succ]))
    (refine hk_take (i := 11) rfl (by kernel_rfl) (by kernel_rfl) (by kernel_rfl) (fun _ _ _ h => h) (yl_load rfl rfl rfl (fun w_ ⟨x_, _, H_⟩ => H_.heap (by repeat (first | exact .head _ | refine .tail _ ?_))) (by kernel_rfl) (g_byt s2)) hHeld ?_; (try simp only [Act.put, List.setIfInBounds_toArray, List.set_cons_zero, List.set_cons_succ]))
    (refine hk_take (i := 13) (v := ?_) rfl (by kernel_rfl) (by kernel_rfl) (by kernel_rfl) (fun _ _ _ h => h) (Or.inl ⟨by rfl, ?_⟩) hHeld ?_; rotate_left 1; (intro w_ hSw_; go_simp; with_reducible rfl); (try simp only [Act.put, List.setIfInBounds_toArray, List.set_cons_zero, List.set_cons_succ]))
    have hgr := Aside0.mk (blk_lt (H.heap (g := gr) (cs := z0) (t := 30) (by repeat (first | exact .head _ | refine .tail _ ?_))))
    have hws := Aside0.mk H.below.size
    (refine hk_op (i := 2) rfl (by kernel_rfl) (fun K hK => ?_))
    refine hs_goes0 rfl (f := 20) rfl Try.func20 (by kernel_rfl) rfl (clone_c s2.out.a s2.out.n s2.out.c (fromF lc kf (newT entry write ld mm l)).1.out _ ⟨hRn.out.out⟩ (by rw [hRn.out.out.1]; exact hbo.out kf)) (by (try simp only [List.map_toArray, List.map_cons, List.map_nil]); first | done | rfl) ?_
    rintro e_ Wx_ ⟨A1, c1, rfl, ho1, hbx_⟩
    refine ⟨_, rfl, ?_⟩
    replace ho1 := Aside0.mk ho1
    replace hbx_ := Aside0.mk hbx_
    replace H := H.call hbx_.out
    refine hK.out _ _ ⟨z0, hz0.out, H⟩ (fun hHeld => ?_)
    clear hK K
    (try simp only [Act.put, List.setIfInBounds_toArray, List.set_cons_zero, List.set_cons_succ])
    (refine hk_op (i := 12) rfl (by kernel_rfl) (fun K hK => ?_))
    refine hs_goes0 rfl (f := 20) rfl Try.func20 (by kernel_rfl) rfl (clone_c s2.byt.a s2.byt.n s2.byt.c (fromF lc kf (newT entry write ld mm l)).1.byt _ ⟨hRn.out.byt.below hbx_.out⟩ (by rw [hRn.out.byt.1, (from_keep lc kf _ rfl).1]; show (ld ++ List.replicate mm 0).length ≤ _; rw [List.length_append, List.length_replicate]; have := hb1.out; have := hd.out.1; omega)) (by (try simp only [List.map_toArray, List.map_cons, List.map_nil]); first | done | rfl) ?_
    rintro e_ Wy_ ⟨A2, c2, rfl, ho2, hby_⟩
    refine ⟨_, rfl, ?_⟩
    replace ho2 := Aside0.mk ho2
    replace hby_ := Aside0.mk hby_
    replace H := H.call hby_.out
    refine hK.out _ _ ⟨z0, hz0.out, H⟩ (fun hHeld => ?_)
    clear hK K
    (try simp only [Act.put, List.setIfInBounds_toArray, List.set_cons_zero, List.set_cons_succ])
    (refine hk_take (i := 14) (v := ?_) rfl (by kernel_rfl) (by kernel_rfl) (by kernel_rfl) (fun _ _ _ h => h) (Or.inl ⟨by rfl, ?_⟩) hHeld ?_; rotate_left 1; (intro w_ hSw_; go_simp; with_reducible rfl); (try simp only [Act.put, List.setIfInBounds_toArray, List.set_cons_zero, List.set_cons_succ]))
    (refine hk_op (i := 15) rfl (by kernel_rfl) (fun K hK => ?_))
    refine hs_storeF H rfl rfl rfl rfl (n := 1) rfl (v := .agg (TV.c ⟨⟨A1, s2.out.n, c1⟩, s2.en, s2.code, s2.flt, ⟨A2, s2.byt.n, c2⟩, ((fromF lc kf (newT entry write ld mm l)).2 : Int)⟩)) rfl (by kernel_rfl) (by rw [hz0.out]; rfl) (by rfl) (tv_all _ hz0.out) rfl ?_
    intro Wz_ H_ hf_ hz_
    replace hf_ := Aside0.mk hf_
    replace hz_ := Aside0.mk hz_
    refine hK.out _ _ ⟨_, rfl, H_⟩ (fun hHeld => ?_)
    clear hK K hHeld H
    have H := H_
    clear H_
    (try simp only [Act.put, List.setIfInBounds_toArray, List.set_cons_zero, List.set_cons_succ])
    (refine wpAnyH_done (by kernel_rfl) ?_ _)
    go_wp2_with ((first | ((with_reducible refine gate_guardG ?_); refine hp_guardLG rfl rfl ?_; (with_reducible first | refine go_tt ?_ | refine go_ff ?_ | refine go_tf ?_ | refine go_ft ?_))); (try simp only [Act.put, List.setIfInBounds_toArray, List.set_cons_zero, List.set_cons_succ]))
    have z2 := hbx_.out.size
    have z3 := hby_.out.size
    replace H : Hp w Wz_ [(g7, s2.c, 37), (gr, TV.c ⟨⟨A1, s2.out.n, c1⟩, s2.en, s2.code, s2.flt, ⟨A2, s2.byt.n, c2⟩, ((fromF lc kf (newT entry write ld mm l)).2 : Int)⟩, 30), (gm, IM.c ⟨⟨Ac, nc, cc⟩, entry, ⟨Ad, nd, cd⟩, write, (mm : Int)⟩, 25)] := H
    exact (bodyPost_ret (results_cell_row rfl _ _ _ 30 _ (0, 0) _ rfl (H.heap (by repeat (first | exact .head _ | refine .tail _ ?_))) Try.underlying30 rfl (by kernel_rfl)) rfl ⟨⟨⟨A1, s2.out.n, c1⟩, s2.en, s2.code, s2.flt, ⟨A2, s2.byt.n, c2⟩, ((fromF lc kf (newT entry write ld mm l)).2 : Int)⟩, rfl, fun W9_ hW9_ => ⟨own_rds ho1.out (fun g h1 h2 => by
        have z4 := hgr.out
        have z5 := hws.out
        exact ((hW9_ g (by omega) (by rw [hz_.out]; omega)).trans (hf_.out g (by omega))).trans (hby_.out.block g h2)),
      hRn.out.en, hRn.out.code, hRn.out.flt, own_rds ho2.out (fun g h1 h2 => by
        have z4 := hgr.out
        have z5 := hws.out
        exact (hW9_ g (by omega) (by rw [hz_.out]; exact h2)).trans (hf_.out g (by omega))), rfl⟩, own_weak (own_step ho2.out (fun g h1 h2 => by
        have z4 := hgr.out
        have z5 := hws.out
        exact hf_.out g (by omega))) (by have z2 := hbx_.out.size; have z3 := hws.out; omega), H.below⟩)
theorem do_c (mv : IM) (mm : Nat) (hm : mv.more = (mm : Int)) (A : Option Addr) (n c : Nat) (lc ld l : List Int) (f : Int) (kf : Nat) (w : World) (hc : Aside0 (RdS .u32 w mv.code.a mv.code.n mv.code.c lc)) (hcu : Aside0 (∀ x ∈ lc, U32 x)) (hd : Aside0 (RdS .u8 w mv.data.a mv.data.n mv.data.c ld)) (hi : Aside0 (RdS .u8 w A n c l)) (hiu : Aside0 (∀ x ∈ l, 0 ≤ x ∧ x ≤ 255)) (hb1 : Aside0 (mv.data.n + mm ≤ 1099511627776)) (hb2 : Aside0 (n ≤ 1099511627776)) (hf : (if f < 0 then 0 else f) = (kf : Int)) (hk : kf ≤ 10000000)
    (hbo : Aside0 (∀ k, (fromF lc k (newT mv.entry mv.write ld mm l)).1.out.length ≤ 140737488355328)) :
    Calls Try.prog 10 #[.agg mv.c, .slice A n c, .int .i64 f] w (DoIs w (runF lc (newT mv.entry mv.write ld mm l) kf)) := by
  refine (do_own_c mv mm hm A n c lc ld l f kf w hc hcu hd hi hiu hb1 hb2 hf hk hbo).mono ?_
  rintro e w' ⟨s, h1, h2, _, h3⟩
  exact ⟨s, h1, h2, h3⟩
end Go.Proofs.Ytcagccodmmcnfaa.Cpu
end
section
/- The awake of layer 7. Own work; a template. -/
namespace Go.Proofs.Ytcagccodmmcnfaa.Cpu
open Go.RowKit Go.Proofs.YtcagccodmmcnfaaW.PrintWords Go.Proofs.YtcagccodmmcnfaaW.PrintLast Go.Proofs.YtcagccodmmcnfaaW.PrintMore Go.Proofs.Ytcagccodmmcnfaa.Hp Go.Proofs.Ytcagccodmmcnfaa.Q
set_option linter.unusedVariables false
set_option linter.unusedSimpArgs false
attribute [local go_sem] add_any
theorem run_nil : runF [] (newT 0 0 [] 0 []) 5 = ⟨[], true, 0, 2, [], 1⟩ := by kernel_rfl
theorem run_halt : runF [0] (newT 0 0 [] 2 []) 5 = ⟨[], true, 0, 0, [0, 0], 1⟩ := by kernel_rfl
theorem out_small (lc : List Int) (e wr : Int) (ld l : List Int) (m k : Nat) : (fromF lc k (newT e wr ld m l)).1.out.length ≤ 140737488355328 := by
  have := from_out lc k (newT e wr ld m l)
  unfold OutOk at this
  have h0 : (newT e wr ld m l).out.length = 0 := rfl
  omega
set_option maxHeartbeats 8000000 in
set_option maxRecDepth 100000 in
theorem awake7_c (w : World) : Calls Try.prog 8 #[] w fun e w' => e = .returned (.bool true) ∧ Below w.heap.size w w' := by
  have H := Hp.nil w
  go_enter Try.func8, Try.ntmps8
  go_wp2_with ((first | ((with_reducible refine gate_guardG ?_); refine hp_guardLG rfl rfl ?_; (with_reducible first | refine go_tt ?_ | refine go_ff ?_ | refine go_tf ?_ | refine go_ft ?_)) | ((with_reducible refine gate_litG ?_); (refine hp_litG H rfl rfl (by first | (go_simp; done) | (go_simp; rfl)) ?_; intro g_ W_ H_)) | ((with_reducible refine gate_dst (N := 4) rfl ?_); ((with_reducible refine gate_fnG ?_); refine hp_goesG H rfl (f := 10) rfl Try.func10 (by kernel_rfl) rfl (do_c ⟨⟨none, 0, 0⟩, 0, ⟨none, 0, 0⟩, 0, 0⟩ 0 rfl none 0 0 [] [] [] 5 5 _ ⟨RdS.nil _ _⟩ ⟨by simp⟩ ⟨RdS.nil _ _⟩ ⟨RdS.nil _ _⟩ ⟨by simp⟩ ⟨by decide⟩ ⟨by decide⟩ (by decide) (by decide) ⟨fun k => out_small _ _ _ _ _ _ k⟩) (by (try simp only [List.map_toArray, List.map_cons, List.map_nil]); first | done | rfl) ?_; rintro e_ W_ ⟨s1, rfl, hr1, hb_⟩; refine ⟨_, rfl, hb_, fun H_ => ?_⟩; have hR1 : Aside0 (∀ W9, Below W_.heap.size W_ W9 → RdT W9 s1 ⟨[], true, 0, 2, [], 1⟩) := ⟨fun W9 h9 => run_nil ▸ hr1 W9 (fun b _ h2 => h9.block b h2)⟩; have hw1 := Aside0.mk H_.below; clear H H_ hr1; have H := Hp.nil W_)) | ((with_reducible refine gate_dst (N := 1) rfl ?_); ((with_reducible refine gate_dst (N := 1) rfl ?_); refine hp_alloc H rfl rfl (fun w_ => by go_simp; rfl) ?_; intro t1 W_ H_; clear H; have H := H_; clear H_)) | ((with_reducible refine gate_dst (N := 2) rfl ?_); ((with_reducible refine gate_dst (N := 2) rfl ?_); refine hp_alloc H rfl rfl (fun w_ => by go_simp; rfl) ?_; intro t2 W_ H_; clear H; have H := H_; clear H_)) | ((with_reducible refine gate_storeG ?_); ((first | (refine hp_store0G H rfl rfl rfl rfl rfl (by kernel_rfl) (by first | rfl | exact fit_.out) (by rfl) (by first | exact tv_all _ rfl) ?_) | (refine hp_store1G H rfl rfl rfl rfl rfl (by kernel_rfl) (by first | rfl | exact fit_.out) (by rfl) (by first | exact tv_all _ rfl) ?_)); intro W_ H_)) | ((with_reducible refine gate_dst (N := 7) rfl ?_); ((with_reducible refine gate_fnG ?_); refine hp_goesG H rfl (f := 10) rfl Try.func10 (by kernel_rfl) rfl (do_c ⟨⟨some ⟨g_, 0, none⟩, 1, 1⟩, 0, ⟨none, 0, 0⟩, 0, 2⟩ 2 rfl none 0 0 [0] [] [] 5 5 _ ⟨H.rds (cur := #[.int .u32 0]) (by repeat (first | exact .head _ | refine .tail _ ?_)) rfl rfl (show (1 : Nat) ≤ 1 by decide) (show (1 : Nat) ≤ 9223372036854775807 by decide)⟩ ⟨by intro x hx; simp at hx; subst hx; unfold U32; omega⟩ ⟨RdS.nil _ _⟩ ⟨RdS.nil _ _⟩ ⟨by simp⟩ ⟨show (0 : Nat) + 2 ≤ 1099511627776 by decide⟩ ⟨by decide⟩ (by decide) (by decide) ⟨fun k => out_small _ _ _ _ _ _ k⟩) (by (try simp only [List.map_toArray, List.map_cons, List.map_nil]); first | done | rfl) ?_; rintro e_ W_ ⟨s2, rfl, hr2, hb_⟩; refine ⟨_, rfl, hb_, fun H_ => ?_⟩; have f1 := Aside0.mk (H_.heap (g := t1) (cs := s1.c) (t := 30) (by repeat (first | exact .head _ | refine .tail _ ?_))); have hR1b : Aside0 (∀ W9, Below W_.heap.size W_ W9 → RdT W9 s1 ⟨[], true, 0, 2, [], 1⟩) := ⟨fun W9 h9 => hR1.out W9 (below_step H_.below h9)⟩; have hR2 : Aside0 (∀ W9, Below W_.heap.size W_ W9 → RdT W9 s2 ⟨[], true, 0, 0, [0, 0], 1⟩) := ⟨fun W9 h9 => run_halt ▸ hr2 W9 (fun b _ h2 => h9.block b h2)⟩; have hw2 := Aside0.mk (below_step hw1.out H_.below); have hz1 := hR1b.out _ (Below.refl _ _); have hz2 := hR2.out _ (Below.refl _ _); have q1 : Aside0 (s1.c[1]? = some (.bool true)) := ⟨by rw [v_en, hz1.en]⟩; have q2 : Aside0 (s1.c[3]? = some (.int .i64 2)) := ⟨by rw [v_flt, hz1.flt]⟩; have q3 : Aside0 (s1.c[5]? = some (.int .i64 1)) := ⟨by rw [v_steps, hz1.steps]⟩; have q4 : Aside0 (s2.c[1]? = some (.bool true)) := ⟨by rw [v_en, hz2.en]⟩; have q5 : Aside0 (s2.c[3]? = some (.int .i64 0)) := ⟨by rw [v_flt, hz2.flt]⟩; have q6 : Aside0 (s2.c[4]? = some (.slice s2.mem.a 2 s2.mem.c)) := ⟨by rw [v_mem, hz2.mem.1]; rfl⟩; clear H H_ hr2 hw1 hR1 hz1 hz2; have H := Hp.nil W_)) | ((with_reducible refine gate_dst (N := 9) rfl ?_); ((with_reducible refine gate_loadG ?_); refine hp_loadXG rfl rfl rfl ((H.below.block _ (blk_lt f1.out)).trans f1.out) (by kernel_rfl) q1.out ?_)) | ((with_reducible refine gate_dst (N := 12) rfl ?_); ((with_reducible refine gate_loadG ?_); refine hp_loadXG rfl rfl rfl ((H.below.block _ (blk_lt f1.out)).trans f1.out) (by kernel_rfl) q2.out ?_)) | ((with_reducible refine gate_dst (N := 17) rfl ?_); ((with_reducible refine gate_loadG ?_); refine hp_loadXG rfl rfl rfl ((H.below.block _ (blk_lt f1.out)).trans f1.out) (by kernel_rfl) q3.out ?_)) | ((with_reducible refine gate_dst (N := 22) rfl ?_); ((with_reducible refine gate_loadG ?_); (refine hp_loadG H rfl rfl rfl (by repeat (first | exact .head _ | refine .tail _ ?_)) (by kernel_rfl) (by first | exact q4.out) ?_))) | ((with_reducible refine gate_dst (N := 26) rfl ?_); ((with_reducible refine gate_loadG ?_); (refine hp_loadG H rfl rfl rfl (by repeat (first | exact .head _ | refine .tail _ ?_)) (by kernel_rfl) (by first | exact q5.out) ?_))) | ((with_reducible refine gate_dst (N := 31) rfl ?_); ((with_reducible refine gate_loadG ?_); (refine hp_loadG H rfl rfl rfl (by repeat (first | exact .head _ | refine .tail _ ?_)) (by kernel_rfl) (by first | exact q6.out) ?_))) | ((with_reducible refine gate_dst (N := 41) rfl ?_); ((with_reducible refine gate_loadG ?_); refine hp_wholeXG (ty := 30) rfl rfl rfl ((H.below.block _ (blk_lt f1.out)).trans f1.out) (by kernel_rfl) (by kernel_rfl) ?_)) | ((with_reducible refine gate_loadG ?_); (first | (refine hp_wholeG H rfl (ty := 30) rfl rfl (by repeat (first | exact .head _ | refine .tail _ ?_)) (by kernel_rfl) (by kernel_rfl) ?_))) | ((with_reducible refine gate_dst (N := 38) rfl ?_); ((with_reducible refine gate_fnG ?_); refine hp_goesG H rfl (f := 17) rfl Try.func17 (by kernel_rfl) rfl (alike_c s2 s2 _ _ _ ⟨hR2.out _ H.below⟩ ⟨hR2.out _ H.below⟩ (r := true) rfl) (by (try simp only [List.map_toArray, List.map_cons, List.map_nil]); first | done | rfl) ?_; rintro e_ W_ ⟨rfl, hb_⟩; refine ⟨_, rfl, hb_, fun H_ => ?_⟩)) | ((with_reducible refine gate_dst (N := 43) rfl ?_); ((with_reducible refine gate_fnG ?_); refine hp_goesG H rfl (f := 17) rfl Try.func17 (by kernel_rfl) rfl (alike_c s1 s2 _ _ _ ⟨hR1b.out _ H.below⟩ ⟨hR2.out _ H.below⟩ (r := false) rfl) (by (try simp only [List.map_toArray, List.map_cons, List.map_nil]); first | done | rfl) ?_; rintro e_ W_ ⟨rfl, hb_⟩; refine ⟨_, rfl, hb_, fun H_ => ?_⟩))); (try (clear H; have H := H_; clear H_)); (try simp only [Act.put, List.setIfInBounds_toArray, List.set_cons_zero, List.set_cons_succ]))
  go_ret
  exact ⟨rfl, below_step hw2.out H.below⟩
end Go.Proofs.Ytcagccodmmcnfaa.Cpu
end
section
/- The laws' fine, told. Own work; a template, printed by gen_ends.py. -/
namespace Go.Proofs.Ytcagccodmmcnfaa.Cpu
open Go.RowKit Go.Proofs.YtcagccodmmcnfaaW.PrintWords Go.Proofs.YtcagccodmmcnfaaW.PrintLast Go.Proofs.YtcagccodmmcnfaaW.PrintMore Go.Proofs.Ytcagccodmmcnfaa.Hp Go.Proofs.Ytcagccodmmcnfaa.Q
set_option linter.unusedVariables false
set_option linter.unusedSimpArgs false
attribute [local go_sem] add_any
def fineF (m : IM) : Bool := decide (0 ≤ m.entry ∧ m.entry ≤ 1048576 ∧ 0 ≤ m.write ∧ m.write ≤ 1048576 ∧ 0 ≤ m.more ∧ m.more ≤ 500 ∧ m.data.n ≤ 500 ∧ m.code.n ≤ 500)
theorem fine_f (m : IM) (lc ld : List Int) (hc : m.code.n = lc.length) (hd : m.data.n = ld.length) : splicelaw07_fine.f lc m.entry ld m.write m.more = some (fineF m) := by
  unfold splicelaw07_fine.f fineF
  rw [hc, hd]
  repeat' split
  all_goals first | (congr 1; symm; exact decide_eq_false (by omega)) | (congr 1; exact decide_eq_decide.2 (by omega))
theorem fine_c (m : IM) (lc ld : List Int) (w : World) (hc : RdS .u32 w m.code.a m.code.n m.code.c lc) (hd : RdS .u8 w m.data.a m.data.n m.data.c ld) {r : Bool} (hr : fineF m = r) :
    Calls Try.prog 9 #[.agg m.c] w fun e w' => e = .returned (.bool r) ∧ Below w.heap.size w w' := by
  have h := fine_f m lc ld hc.1 hd.1
  rw [hr] at h
  obtain ⟨⟨Ac, nc, cc⟩, entry, ⟨Ad, nd, cd⟩, write, more⟩ := m
  obtain ⟨h1, h2, _, h3⟩ := hc
  obtain ⟨g1, g2, _, g3⟩ := hd
  simp only at h h1 h2 h3 g1 g2 g3
  subst h1 g1
  exact splicelaw07_fine.calls Ac cc lc entry Ad cd ld write more r w h3 h2 g3 g2 h
theorem fine_b {m : IM} (h : fineF m = true) : 0 ≤ m.entry ∧ m.entry ≤ 1048576 ∧ 0 ≤ m.write ∧ m.write ≤ 1048576 ∧ 0 ≤ m.more ∧ m.more ≤ 500 ∧ m.data.n ≤ 500 ∧ m.code.n ≤ 500 := of_decide_eq_true h
end Go.Proofs.Ytcagccodmmcnfaa.Cpu
end
section
/- An image handed in, opened. Own work; a template. -/
namespace Go.Proofs.Ytcagccodmmcnfaa.Cpu
open Go.RowKit Go.Proofs.YtcagccodmmcnfaaW.PrintWords Go.Proofs.YtcagccodmmcnfaaW.PrintLast Go.Proofs.YtcagccodmmcnfaaW.PrintMore Go.Proofs.Ytcagccodmmcnfaa.Hp Go.Proofs.Ytcagccodmmcnfaa.Q
set_option linter.unusedVariables false
set_option maxRecDepth 100000 in
set_option maxHeartbeats 4000000 in
theorem im_open {H : Type} {enc : TypeId × Value → H} {W : World} {base : Nat} {spare : Nat → Bool} {held : Bool} {fuel : Nat} {cs : List Value} {x : DataW H × List MemPlace} (h : DataW.trod enc Try.prog W base spare held fuel 25 cs = some x) (hw : ∀ n ∈ x.1.weights Try.prog 25, n ≤ 140737488351232) :
    ∃ (m : IM) (lc ld : List Int), cs = m.c.toList ∧ RdS .u32 W m.code.a m.code.n m.code.c lc ∧ RdS .u8 W m.data.a m.data.n m.data.c ld ∧ (∀ x ∈ lc, U32 x) ∧ (∀ x ∈ ld, U8 x) ∧ I64 m.entry ∧ I64 m.write ∧ I64 m.more := by
  obtain ⟨xs, n, rfl, rfl, hl, hxl, hf⟩ := DataW.trod_struct Try.underlying25 h
  have hl' : cs.length = 5 := hl.trans (by kernel_rfl)
  have hxl' : xs.length = 5 := hxl
  have c3 : Try.prog.cellsOf 3 = 1 := by kernel_rfl
  have c22 : Try.prog.cellsOf 22 = 1 := by kernel_rfl
  have c23 : Try.prog.cellsOf 23 = 1 := by kernel_rfl
  have c26 : Try.prog.cellsOf 28 = 1 := by kernel_rfl
  have c5 : Try.prog.cellsOf 5 = 1 := by kernel_rfl
  have b26 : Try.prog.bytesOf 28 = 4 := by kernel_rfl
  have b5 : Try.prog.bytesOf 5 = 1 := by kernel_rfl
  match xs, hxl' with
  | [x0, x1, x2, x3, x4], _ =>
    simp only [DataW.weights, Try.underlying25] at hw
    have hwe : ∀ (j : Nat) (ty : TypeId) (d : DataW H), ([22, 3, 23, 3, 3] : List TypeId)[j]? = some ty → (([x0, x1, x2, x3, x4] : List (DataW H × List MemPlace)).map (fun z => z.1))[j]? = some d → ∀ m ∈ DataW.weights Try.prog ty d, m ≤ 140737488351232 := fun j ty d ht hd m hm => hw m (DataW.weights_mem_each ht hd m hm)
    match cs, hl' with
    | [v0, v1, v2, v3, v4], _ =>
      have f0 : DataW.trod enc Try.prog W base spare held n 22 [v0] = some x0 := fld hf 0 rfl rfl rfl (n := 1) c22 rfl rfl
      have f1 : DataW.trod enc Try.prog W base spare held n 3 [v1] = some x1 := fld hf 1 rfl rfl rfl (n := 1) c3 rfl rfl
      have f2 : DataW.trod enc Try.prog W base spare held n 23 [v2] = some x2 := fld hf 2 rfl rfl rfl (n := 1) c23 rfl rfl
      have f3 : DataW.trod enc Try.prog W base spare held n 3 [v3] = some x3 := fld hf 3 rfl rfl rfl (n := 1) c3 rfl rfl
      have f4 : DataW.trod enc Try.prog W base spare held n 3 [v4] = some x4 := fld hf 4 rfl rfl rfl (n := 1) c3 rfl rfl
      obtain ⟨Ac, nc, cc, lc, ec, hc, wc, zc⟩ := sl_open Try.underlying22 Try.underlying28 c26 b26 f0 (hwe 0 _ _ rfl rfl)
      obtain ⟨r1, rfl, w1⟩ := int_open Try.underlying3 f1
      obtain ⟨Ad, nd, cd, ld, ed, hd, wd, zd⟩ := sl_open Try.underlying23 Try.underlying5 c5 b5 f2 (hwe 2 _ _ rfl rfl)
      obtain ⟨r3, rfl, w3⟩ := int_open Try.underlying3 f3
      obtain ⟨r4, rfl, w4⟩ := int_open Try.underlying3 f4
      simp only [List.cons.injEq, and_true] at ec ed
      subst ec ed
      exact ⟨⟨⟨Ac, nc, cc⟩, r1, ⟨Ad, nd, cd⟩, r3, r4⟩, lc, ld, rfl, hc, hd, fun x hx => wf_u32 (wc x hx), fun x hx => wf_u8 (wd x hx), wf_i64 w1, wf_i64 w3, wf_i64 w4⟩
theorem im_trod {H : Type} {enc : TypeId × Value → H} {W : World} {base : Nat} {spare : Nat → Bool} {held : Bool} {v : Value} {d : DataW H} {ps : List MemPlace} {ts : List TypeId} {ds : List (DataW H)} {j : Nat}
    (hsz : (DataW.weightsEach Try.prog ts ds).all (· ≤ reachBytes) = true) (ht : ts[j]? = some 25) (hd : ds[j]? = some d) (hr : DataW.Trod enc Try.prog W base spare held 25 v d ps) : ∃ (m : IM) (lc ld : List Int), v.cells.toList = m.c.toList ∧ RdS .u32 W m.code.a m.code.n m.code.c lc ∧ RdS .u8 W m.data.a m.data.n m.data.c ld ∧ (∀ x ∈ lc, U32 x) ∧ (∀ x ∈ ld, U8 x) ∧ I64 m.entry ∧ I64 m.write ∧ I64 m.more := by
  obtain ⟨fuel, hf⟩ := hr
  exact im_open hf (fun n hn => of_decide_eq_true (List.all_eq_true.1 hsz n (DataW.weights_mem_each ht hd n hn)))
end Go.Proofs.Ytcagccodmmcnfaa.Cpu
end
