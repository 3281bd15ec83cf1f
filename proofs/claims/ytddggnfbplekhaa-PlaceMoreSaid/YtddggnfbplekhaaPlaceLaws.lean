/- The laws' guard, the comparison, the law's own input: layer 'place'. Own work; a template. -/
import Derived.Test.YtddggnfbplekhaaPlace
namespace Go.Proofs.Ytddggnfbplekhaa.Place
open Go.RowKit Go.Proofs.Ytddggnfbplekhaa.Q Go.Proofs.YtddggnfbplekhaaW.PrintWords Go.Proofs.YtddggnfbplekhaaW.PrintLast Go.Proofs.YtddggnfbplekhaaW.PrintMore
set_option linter.unusedVariables false
set_option linter.unusedSimpArgs false
theorem ints_self (xs : List Int) (hl : xs.length < 1000000) (d : Nat) : ∀ (i : Nat), i ≤ xs.length → xs.length - i = d → Evt (fun k => spliceref03_Ints.l0 k xs xs i) true := by
  induction d with
  | zero =>
    intro i hi hd
    refine Evt.of fun k => ?_
    simp only [spliceref03_Ints.l0]
    rw [if_neg (by omega)]
  | succ d ih =>
    intro i hi hd
    refine Evt.step (fun k => ?_) (ih (i + 1) (by omega) (by omega))
    simp only [spliceref03_Ints.l0]
    rw [if_pos (by omega), if_pos (by omega), if_pos (by omega), if_pos trivial, w64 (by omega) (by omega)]
    rfl
theorem ints_refl (xs : List Int) (hl : xs.length < 1000000) : Evt (fun k => spliceref03_Ints.f k xs xs) true :=
  Evt.congr (fun k => if_pos rfl) (ints_self xs hl xs.length 0 (by omega) (by omega))
theorem same_refl (xs ys : List Int) (a b c : Int) (hx : xs.length < 1000000) (hy : ys.length < 1000000) : Evt (fun k => spliceref12_Same.f k xs ys a b c xs ys a b c) true := by
  refine Evt.bind (ints_refl xs hx) ?_
  refine Evt.congr (fun k => if_pos rfl) ?_
  refine Evt.bind (ints_refl ys hy) ?_
  refine Evt.of fun k => ?_
  simp
theorem cL_len (ds : List S42) : ∀ (os xs : List Int) (w : Int) (ys : List Int) (v : Int), cL ds os xs w = some (ys, v) → ys.length = xs.length
  | [], xs, w, ys, v, h => by
    simp only [cL, Option.some.injEq, Prod.mk.injEq] at h
    rw [h.1]
  | f :: fs, xs, w, ys, v, h => by
    unfold cL at h
    split at h
    · cases h
    · rw [cL_len ds fs _ _ _ _ h, List.length_set]
theorem plan_len (ds : List S42) (dd : List S39) (en : Int) (os : List Int) : (planS ds dd en os).1.length ≤ ds.length ∧ (planS ds dd en os).2.1.length ≤ dd.length := by
  unfold planS
  generalize hc : cL ds os (List.replicate ds.length (-1)) 0 = c
  rcases c with _ | ⟨xs, w⟩
  · simp [resR]
  · have := cL_len ds _ _ _ _ _ hc
    have hq := (layD_len false dd 0 (layD true dd 0 (List.replicate dd.length 0) 0).1 (upZ (layD true dd 0 (List.replicate dd.length 0) 0).2 16)).trans ((layD_len true dd 0 (List.replicate dd.length 0) 0).trans List.length_replicate)
    rw [List.length_replicate] at this
    simp only [resR]
    split
    · unfold fin
      simp only
      split
      · simp
      · split
        · simp
        · exact ⟨Nat.le_of_eq this, Nat.le_of_eq hq⟩
    · simp
/-- What May lets through. -/
structure Fit (ds : List S42) (dd : List S39) : Prop where
  lens : ds.length ≤ 300
  lend : dd.length ≤ 300
  small : Small ds
  fine : Fine dd
theorem may_l1 (ds : List S42) (dd : List S39) (en : Int) (hl : dd.length ≤ 300) (d : Nat) : ∀ (i : Nat), i ≤ dd.length → dd.length - i = d →
    (∀ j : Nat, j < i → 1 ≤ (rd_T39 dd j).f0 ∧ (rd_T39 dd j).f0 ≤ 16 ∧ 1 ≤ (rd_T39 dd j).f2 ∧ (rd_T39 dd j).f2 ≤ 4096) →
    ∃ b, Evt (fun k => spliceref12_May.l1 k i ds dd en) b ∧ (b = true → Fine dd) := by
  induction d with
  | zero =>
    intro i hi hd H
    refine ⟨true, Evt.of fun k => ?_, fun _ j hj => H j (by omega)⟩
    simp only [spliceref12_May.l1]
    rw [if_neg (by omega)]
  | succ d ih =>
    intro i hi hd H
    have hno : ∀ b : Bool, b = false → b = true → Fine dd := fun b h h' => by rw [h] at h'; cases h'
    have step : ∀ k, spliceref12_May.l1 (k + 1) i ds dd en = if (rd_T39 dd (i : Int)).f0 < 1 then some false else if (rd_T39 dd (i : Int)).f0 > 16 then some false else if (rd_T39 dd (i : Int)).f2 < 1 then some false else if (rd_T39 dd (i : Int)).f2 > 4096 then some false else if (((rd_T39 dd (i : Int)).f3).length : Int) > (rd_T39 dd (i : Int)).f2 then some false else if (((rd_T39 dd (i : Int)).f4).length : Int) > 300 then some false else spliceref12_May.l1 k ((i + 1 : Nat) : Int) ds dd en := by
      intro k
      simp only [spliceref12_May.l1]
      rw [if_pos (by omega), if_pos (by omega), w64 (x := (i : Int) + 1) (by omega) (by omega)]
      rfl
    by_cases h1 : (rd_T39 dd (i : Int)).f0 < 1
    · exact ⟨false, Evt.of fun k => by rw [step, if_pos h1], hno _ rfl⟩
    by_cases h2 : (rd_T39 dd (i : Int)).f0 > 16
    · exact ⟨false, Evt.of fun k => by rw [step, if_neg h1, if_pos h2], hno _ rfl⟩
    by_cases h3 : (rd_T39 dd (i : Int)).f2 < 1
    · exact ⟨false, Evt.of fun k => by rw [step, if_neg h1, if_neg h2, if_pos h3], hno _ rfl⟩
    by_cases h4 : (rd_T39 dd (i : Int)).f2 > 4096
    · exact ⟨false, Evt.of fun k => by rw [step, if_neg h1, if_neg h2, if_neg h3, if_pos h4], hno _ rfl⟩
    by_cases h5 : (((rd_T39 dd (i : Int)).f3).length : Int) > (rd_T39 dd (i : Int)).f2
    · exact ⟨false, Evt.of fun k => by rw [step, if_neg h1, if_neg h2, if_neg h3, if_neg h4, if_pos h5], hno _ rfl⟩
    by_cases h6 : (((rd_T39 dd (i : Int)).f4).length : Int) > 300
    · exact ⟨false, Evt.of fun k => by rw [step, if_neg h1, if_neg h2, if_neg h3, if_neg h4, if_neg h5, if_pos h6], hno _ rfl⟩
    obtain ⟨b, hb, hb'⟩ := ih (i + 1) (by omega) (by omega) (fun j hj => by
      by_cases e : j = i
      · subst e
        omega
      · exact H j (by omega))
    exact ⟨b, Evt.step (fun k => by rw [step, if_neg h1, if_neg h2, if_neg h3, if_neg h4, if_neg h5, if_neg h6]) hb, hb'⟩
theorem may_l0 (ds : List S42) (dd : List S39) (en : Int) (hd' : ds.length ≤ 300) (hl : dd.length ≤ 300) (d : Nat) : ∀ (i : Nat), i ≤ ds.length → ds.length - i = d →
    (∀ j : Nat, j < i → ((rd_T42 ds j).f3.length : Int) ≤ 70000) →
    ∃ b, Evt (fun k => spliceref12_May.l0 k i ds dd en) b ∧ (b = true → Fit ds dd) := by
  induction d with
  | zero =>
    intro i hi hd H
    obtain ⟨b, hb, hb'⟩ := may_l1 ds dd en hl dd.length 0 (by omega) (by omega) (fun j hj => by omega)
    refine ⟨b, Evt.step (fun k => ?_) hb, fun h => ⟨hd', hl, fun j => ?_, hb' h⟩⟩
    · simp only [spliceref12_May.l0]
      rw [if_neg (by omega)]
      rfl
    · by_cases hj : j.toNat < ds.length
      · have := H j.toNat (by omega)
        unfold rd_T42 at this ⊢
        rw [Int.toNat_natCast] at this
        exact this
      · unfold rd_T42
        rw [List.getD_eq_getElem?_getD, List.getElem?_eq_none (by omega)]
        decide
  | succ d ih =>
    intro i hi hd H
    have step : ∀ k, spliceref12_May.l0 (k + 1) i ds dd en = if (((rd_T42 ds (i : Int)).f3).length : Int) > 70000 then some false else if (((rd_T42 ds (i : Int)).f4).length : Int) > 300 then some false else spliceref12_May.l0 k ((i + 1 : Nat) : Int) ds dd en := by
      intro k
      simp only [spliceref12_May.l0]
      rw [if_pos (by omega), if_pos (by omega), w64 (x := (i : Int) + 1) (by omega) (by omega)]
      rfl
    by_cases h1 : (((rd_T42 ds (i : Int)).f3).length : Int) > 70000
    · exact ⟨false, Evt.of fun k => by rw [step, if_pos h1], fun h => by cases h⟩
    by_cases h2 : (((rd_T42 ds (i : Int)).f4).length : Int) > 300
    · exact ⟨false, Evt.of fun k => by rw [step, if_neg h1, if_pos h2], fun h => by cases h⟩
    obtain ⟨b, hb, hb'⟩ := ih (i + 1) (by omega) (by omega) (fun j hj => by
      by_cases e : j = i
      · subst e
        omega
      · exact H j (by omega))
    exact ⟨b, Evt.step (fun k => by rw [step, if_neg h1, if_neg h2]) hb, hb'⟩
theorem may_eq (ds : List S42) (dd : List S39) (en : Int) : ∃ b, Evt (fun k => spliceref12_May.f k ds dd en) b ∧ (b = true → Fit ds dd) := by
  by_cases h1 : (ds.length : Int) > 300
  · refine ⟨false, ?_, fun h => by cases h⟩
    refine Evt.congr (fun k => if_pos h1) (Evt.of fun k => ?_)
    simp only [spliceref12_May.j0]
    rfl
  by_cases h2 : (dd.length : Int) > 300
  · refine ⟨false, ?_, fun h => by cases h⟩
    refine Evt.congr (fun k => if_neg h1) (Evt.of fun k => ?_)
    rw [decide_eq_true h2]
    simp only [spliceref12_May.j0]
    rfl
  · obtain ⟨b, hb, hb'⟩ := may_l0 ds dd en (by omega) (by omega) ds.length 0 (by omega) (by omega) (fun j hj => by omega)
    refine ⟨b, ?_, hb'⟩
    refine Evt.congr (fun k => if_neg h1) (Evt.step (fun k => ?_) hb)
    rw [decide_eq_false h2]
    simp only [spliceref12_May.j0]
    rfl
theorem awake12 : Evt (fun k => splicelaw12_awake.f k) true := Evt.mono splicelaw12_awake.mono 40 (by decide +kernel)
end Go.Proofs.Ytddggnfbplekhaa.Place
