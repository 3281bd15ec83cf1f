/- Several texts in one. Own work; written by merge.py. -/
import Derived.Test.YtdnfofhfllnhiaaQLB
import Derived.Test.YtdnfofhfllnhiaaQD0
import Derived.Test.YtdnfofhfllnhiaaCode
/- What place.Plan comes to, in plain Lean. Own work; a template. -/
namespace Go.Proofs.Ytdnfofhfllnhiaa.Place
open Go.RowKit Go.Proofs.Ytdnfofhfllnhiaa.Q Go.Proofs.YtdnfofhfllnhiaaW.PrintWords Go.Proofs.YtdnfofhfllnhiaaW.PrintLast Go.Proofs.YtdnfofhfllnhiaaW.PrintMore
set_option linter.unusedVariables false
set_option linter.unusedSimpArgs false

/-- From some fuel on, the answer. -/
def Evt {α : Type} (g : Nat → Option α) (r : α) : Prop := ∃ K, ∀ k, K ≤ k → g k = some r
theorem Evt.step {α : Type} {g h : Nat → Option α} {r : α} (e : ∀ k, g (k + 1) = h k) (H : Evt h r) : Evt g r := by
  obtain ⟨K, H⟩ := H
  refine ⟨K + 1, fun k hk => ?_⟩
  obtain ⟨k, rfl⟩ : ∃ m, k = m + 1 := ⟨k - 1, by omega⟩
  rw [e]
  exact H k (by omega)
theorem Evt.of {α : Type} {g : Nat → Option α} {r : α} (e : ∀ k, g (k + 1) = some r) : Evt g r := by
  refine ⟨1, fun k hk => ?_⟩
  obtain ⟨k, rfl⟩ : ∃ m, k = m + 1 := ⟨k - 1, by omega⟩
  exact e k
theorem Evt.congr {α : Type} {g h : Nat → Option α} {r : α} (e : ∀ k, g k = h k) (H : Evt h r) : Evt g r := by
  obtain ⟨K, H⟩ := H
  exact ⟨K, fun k hk => (e k).trans (H k hk)⟩
theorem Evt.bind {α β : Type} {f : Nat → Option α} {g : Nat → α → Option β} {a : α} {r : β} (h1 : Evt f a) (h2 : Evt (fun k => g k a) r) : Evt (fun k => (f k).bind (g k)) r := by
  obtain ⟨K, h1⟩ := h1
  obtain ⟨L, h2⟩ := h2
  refine ⟨max K L, fun k hk => ?_⟩
  show (f k).bind (g k) = some r
  rw [h1 k (by omega)]
  exact h2 k (by omega)
theorem Evt.out {α : Type} {g : Nat → Option α} {r : α} (H : Evt g r) : ∃ k, g k = Option.some r := by
  obtain ⟨K, H⟩ := H
  exact ⟨K, H K (Nat.le_refl _)⟩
theorem Evt.mono {α : Type} {g : Nat → Option α} {r : α} (m : ∀ k, LeO (g k) (g (k + 1))) (K : Nat) (h : g K = some r) : Evt g r := by
  refine ⟨K, fun k hk => ?_⟩
  obtain ⟨d, rfl⟩ : ∃ d, k = K + d := ⟨k - K, by omega⟩
  clear hk
  induction d with
  | zero => exact h
  | succ d ih => exact m _ _ ih
theorem w64 {x : Int} (h1 : -9223372036854775808 ≤ x) (h2 : x ≤ 9223372036854775807) : wrap64 x = x := by
  unfold wrap64
  omega
theorem rd_set {xs : List Int} {f j v : Int} (hf : 0 ≤ f) (hj : 0 ≤ j) (h : f < xs.length) : rd (xs.set f.toNat v) j = if j = f then v else rd xs j := by
  unfold rd
  by_cases e : j = f
  · subst e
    rw [if_pos rfl, List.getD_eq_getElem?_getD, List.getElem?_set_self (by omega)]
    rfl
  · rw [if_neg e, List.getD_eq_getElem?_getD, List.getElem?_set_ne (by omega), List.getD_eq_getElem?_getD]

/-! ## the functions' places -/
/-- The order gone through: the places, the words; none: not an order. -/
def cL (ds : List S44) : List Int → List Int → Int → Option (List Int × Int)
  | [], xs, w => some (xs, w)
  | f :: fs, xs, w => if f < 0 ∨ (ds.length : Int) ≤ f ∨ 0 ≤ rd xs f then none else cL ds fs (xs.set f.toNat w) (w + ((rd_T44 ds f).f3.length : Int))
theorem cL_drop (ds : List S44) (os xs : List Int) (w : Int) (i : Nat) (h : i < os.length) : cL ds (os.drop i) xs w =
    if rd os i < 0 ∨ (ds.length : Int) ≤ rd os i ∨ 0 ≤ rd xs (rd os i) then none else cL ds (os.drop (i + 1)) (xs.set (rd os i).toNat w) (w + ((rd_T44 ds (rd os i)).f3.length : Int)) := by
  rw [List.drop_eq_getElem_cons h]
  have : rd os i = os[i] := by unfold rd; simp [List.getD_eq_getElem?_getD, h]
  rw [this]
  rfl
def okC (en : Int) (xs : List Int) : Prop := 0 ≤ en ∧ en < xs.length ∧ 0 ≤ rd xs en
instance (en : Int) (xs : List Int) : Decidable (okC en xs) := by unfold okC; infer_instance
def resC (en : Int) : Option (List Int × Int) → List Int × Int × Bool
  | none => ([], 0, false)
  | some (xs, w) => (xs, w, decide (okC en xs))
def Small (ds : List S44) : Prop := ∀ j : Int, ((rd_T44 ds j).f3.length : Int) ≤ 70000
theorem codes_l1 (ds : List S44) (dd : List S55) (en : Int) (os : List Int) (hs : Small ds) (ho : os.length ≤ 400) (d : Nat) : ∀ (i : Nat) (xs : List Int) (w : Int), i ≤ os.length → os.length - i = d → xs.length = ds.length → 0 ≤ w → w + d * 70000 ≤ 30000000 →
    Evt (fun k => place_codes.l1 k xs w os (os.length : Int) i ds dd en) (resC en (cL ds (os.drop i) xs w)) := by
  induction d with
  | zero =>
    intro i xs w hi hd hl hw hb
    have : os.drop i = [] := List.drop_of_length_le (by omega)
    rw [this]
    refine Evt.of fun k => ?_
    simp only [place_codes.l1, cL, resC]
    rw [if_neg (by omega)]
    by_cases h1 : 0 ≤ en
    · rw [if_pos h1]
      by_cases h2 : en < (xs.length : Int)
      · rw [if_pos h2, if_pos h1]
        congr 3
        unfold okC
        simp [h1, h2]
      · rw [if_neg h2]
        congr 3
        unfold okC
        simp [h2]
    · rw [if_neg h1]
      congr 3
      unfold okC
      simp [h1]
  | succ d ih =>
    intro i xs w hi hd hl hw hb
    have hlt : i < os.length := by omega
    rw [cL_drop ds os xs w i hlt]
    generalize hf : rd os (i : Int) = f
    by_cases h1 : f < 0
    · rw [if_pos (Or.inl h1)]
      refine Evt.of fun k => ?_
      simp only [place_codes.l1]
      rw [if_pos (by omega), if_pos (by omega), if_pos (by omega), hf, if_pos h1]
      rfl
    by_cases h2 : (ds.length : Int) ≤ f
    · rw [if_pos (Or.inr (Or.inl h2))]
      refine Evt.of fun k => ?_
      simp only [place_codes.l1]
      rw [if_pos (by omega), if_pos (by omega), if_pos (by omega), hf, if_neg h1, if_pos (by omega)]
      rfl
    by_cases h3 : 0 ≤ rd xs f
    · rw [if_pos (Or.inr (Or.inr h3))]
      refine Evt.of fun k => ?_
      simp only [place_codes.l1]
      rw [if_pos (by omega), if_pos (by omega), if_pos (by omega), hf, if_neg h1, if_neg (by omega), if_pos (by omega), if_pos (by omega), if_pos h3]
      rfl
    · rw [if_neg (by omega)]
      have hc := hs f
      refine Evt.step (fun k => ?_) (ih (i + 1) (xs.set f.toNat w) (w + ((rd_T44 ds f).f3.length : Int)) (by omega) (by omega) (by rw [List.length_set]; exact hl) (by omega) (by omega))
      simp only [place_codes.l1]
      rw [if_pos (by omega), if_pos (by omega), if_pos (by omega), hf, if_neg h1, if_neg (by omega), if_pos (by omega), if_pos (by omega), if_neg h3, if_pos (by omega), w64 (by omega) (by omega), w64 (by omega) (by omega)]
      rfl
/-- The first i rows are -1. -/
def filled (xs : List Int) (i : Nat) : List Int := List.replicate i (-1) ++ xs.drop i
theorem filled_len {xs : List Int} {i : Nat} (h : i ≤ xs.length) : (filled xs i).length = xs.length := by unfold filled; simp; omega
theorem filled_succ {xs : List Int} {i : Nat} (h : i < xs.length) : (filled xs i).set i (-1) = filled xs (i + 1) := by
  unfold filled
  rw [List.drop_eq_getElem_cons h, List.set_append_right _ _ (by simp), List.length_replicate, Nat.sub_self, List.set_cons_zero, List.replicate_succ', List.append_assoc]
  rfl
theorem filled_all {xs : List Int} : filled xs xs.length = List.replicate xs.length (-1) := by unfold filled; simp
theorem codes_l0 (ds : List S44) (dd : List S55) (en : Int) (os zs : List Int) (r : List Int × Int × Bool) (hz : zs.length < 1000000) (H : Evt (fun k => place_codes.l1 k (List.replicate zs.length (-1)) 0 os (os.length : Int) 0 ds dd en) r) (d : Nat) : ∀ (i : Nat), i ≤ zs.length → zs.length - i = d →
    Evt (fun k => place_codes.l0 k os (filled zs i) (zs.length : Int) i ds dd en) r := by
  induction d with
  | zero =>
    intro i hi hd
    obtain rfl : i = zs.length := by omega
    refine Evt.step (fun k => ?_) H
    simp only [place_codes.l0]
    rw [if_neg (by omega), filled_all]
  | succ d ih =>
    intro i hi hd
    refine Evt.step (fun k => ?_) (ih (i + 1) (by omega) (by omega))
    simp only [place_codes.l0]
    rw [if_pos (by omega), if_pos (by omega), if_pos (by rw [filled_len hi]; omega), w64 (by omega) (by omega), Int.toNat_natCast, filled_succ (by omega)]
    rfl
theorem codes_eq (ds : List S44) (dd : List S55) (en : Int) (os : List Int) (hs : Small ds) (ho : os.length ≤ 400) (hd : ds.length ≤ 300) :
    Evt (fun k => place_codes.f k ds dd en os) (resC en (cL ds os (List.replicate ds.length (-1)) 0)) := by
  have h1 := codes_l1 ds dd en os hs ho os.length 0 (List.replicate ds.length (-1)) 0 (by omega) (by omega) (by simp) (by omega) (by omega)
  have h2 := codes_l0 ds dd en os (List.replicate ds.length 0) (resC en (cL ds os (List.replicate ds.length (-1)) 0)) (by simp; omega) (by simpa using h1) ds.length 0 (by omega) (by simp)
  refine Evt.congr (fun k => ?_) h2
  show place_codes.f k ds dd en os = _
  unfold place_codes.f
  rw [if_pos (by omega), if_pos (by omega), Option.bind_some, Int.toNat_natCast]
  rfl

/-! ## the data's places -/
theorem up_facts {e al : Int} (h : 0 ≤ e) (h' : e ≤ 1099511627776) (h1 : 1 ≤ al) (h2 : al ≤ 16) : e ≤ upZ e al ∧ upZ e al ≤ e + 15 ∧ upZ e al % al = 0 ∧ (e % al = 0 → upZ e al = e) ∧ (e % al ≠ 0 → e + 1 ≤ 1099511627776 → upZ (e + 1) al = upZ e al) := by
  unfold upZ
  rw [if_pos (by omega)]
  have : al = 1 ∨ al = 2 ∨ al = 3 ∨ al = 4 ∨ al = 5 ∨ al = 6 ∨ al = 7 ∨ al = 8 ∨ al = 9 ∨ al = 10 ∨ al = 11 ∨ al = 12 ∨ al = 13 ∨ al = 14 ∨ al = 15 ∨ al = 16 := by omega
  rcases this with rfl | rfl | rfl | rfl | rfl | rfl | rfl | rfl | rfl | rfl | rfl | rfl | rfl | rfl | rfl | rfl
  all_goals
    refine ⟨by omega, by omega, by omega, by omega, fun h3 h4 => ?_⟩
    rw [if_pos (by omega)]
    omega
/-- What the laws let through of the data. -/
def Fine (dd : List S55) : Prop := ∀ j : Nat, j < dd.length → 1 ≤ (rd_T55 dd j).f0 ∧ (rd_T55 dd j).f0 ≤ 16 ∧ 1 ≤ (rd_T55 dd j).f2 ∧ (rd_T55 dd j).f2 ≤ 4096
theorem layD_dr (fx : Bool) (ds : List S55) (i : Nat) (h : i < ds.length) (xs : List Int) (e : Int) : layD fx (ds.drop i) i xs e =
    if (rd_T55 ds i).f1 = fx then layD fx (ds.drop (i + 1)) (i + 1) (xs.set i (upZ e (rd_T55 ds i).f0)) (wrap64 (upZ e (rd_T55 ds i).f0 + (rd_T55 ds i).f2)) else layD fx (ds.drop (i + 1)) (i + 1) xs e := by
  rw [List.drop_eq_getElem_cons h]
  have : rd_T55 ds i = ds[i] := by unfold rd_T55; simp [List.getD_eq_getElem?_getD, h]
  rw [this]
  rfl
theorem layD_bound (fx : Bool) (dd : List S55) (hf : Fine dd) (d : Nat) : ∀ (i : Nat) (xs : List Int) (e : Int), i ≤ dd.length → dd.length - i = d → 0 ≤ e → e + d * 4111 ≤ 100000000 →
    e ≤ (layD fx (dd.drop i) i xs e).2 ∧ (layD fx (dd.drop i) i xs e).2 ≤ e + d * 4111 := by
  induction d with
  | zero =>
    intro i xs e hi hd h0 h1
    rw [List.drop_of_length_le (by omega)]
    simp only [layD]
    omega
  | succ d ih =>
    intro i xs e hi hd h0 h1
    rw [layD_dr fx dd i (by omega)]
    obtain ⟨a1, a2, a3, a4⟩ := hf i (by omega)
    split
    · obtain ⟨b1, b2, _⟩ := up_facts h0 (by omega) a1 a2
      rw [w64 (by omega) (by omega)]
      have := ih (i + 1) (xs.set i (upZ e (rd_T55 dd i).f0)) (upZ e (rd_T55 dd i).f0 + (rd_T55 dd i).f2) (by omega) (by omega) (by omega) (by omega)
      omega
    · have := ih (i + 1) xs e (by omega) (by omega) (by omega) (by omega)
      omega
abbrev R6 := List Int × List Int × Int × Int × Int × Int
/-- What both answer once the functions stand. -/
def fin (dd : List S55) (xs : List Int) (w : Int) : R6 :=
  let r := layD true dd 0 (List.replicate dd.length 0) 0
  let q := layD false dd 0 r.1 (upZ r.2 16)
  if w > 65536 then ([], [], 0, 0, 0, 8) else if q.2 > 65536 then ([], [], 0, 0, 0, 8) else (xs, q.1, w, q.2, upZ r.2 16, 0)
def resR (en : Int) (dd : List S55) : Option (List Int × Int) → R6
  | none => ([], [], 0, 0, 0, 1)
  | some (xs, w) => if okC en xs then fin dd xs w else ([], [], 0, 0, 0, 1)
/-- A place is -1 or none below nought. -/
def Pl (xs : List Int) : Prop := ∀ j : Int, 0 ≤ j → j < xs.length → rd xs j = -1 ∨ 0 ≤ rd xs j
/-- The plan, in plain Lean. -/
def planS (ds : List S44) (dd : List S55) (en : Int) (os : List Int) : R6 := resR en dd (cL ds os (List.replicate ds.length (-1)) 0)
theorem plan_eq (ds : List S44) (dd : List S55) (en : Int) (os : List Int) (hs : Small ds) (ho : os.length ≤ 400) (hd : ds.length ≤ 300) (hl : dd.length ≤ 300) :
    Evt (fun k => place_Plan.f k ds dd en os) (planS ds dd en os) := by
  refine Evt.bind (codes_eq ds dd en os hs ho hd) ?_
  unfold planS
  generalize cL ds os (List.replicate ds.length (-1)) 0 = c
  rcases c with _ | ⟨xs, w⟩
  · refine Evt.of fun k => ?_
    simp only [resC, resR]
    rfl
  · refine Evt.of fun k => ?_
    by_cases h : okC en xs
    · have e : (resC en (some (xs, w))).2.2 = true := decide_eq_true h
      show (if (resC en (some (xs, w))).2.2 = true then _ else _) = _
      rw [if_pos e]
      simp only [resC, resR]
      rw [if_pos h]
      unfold place_datas.f fin
      rw [if_pos (by omega), Option.bind_some]
      simp only
      split
      · rfl
      · split
        · rfl
        · rfl
    · have e : ¬ (resC en (some (xs, w))).2.2 = true := by
        simp only [resC]
        simpa using h
      show (if (resC en (some (xs, w))).2.2 = true then _ else _) = _
      rw [if_neg e]
      simp only [resR]
      rw [if_neg h]
end Go.Proofs.Ytdnfofhfllnhiaa.Place

/- The layer 'patch' in plain Lean: what the laws let through, the plan's bounds, a function's words and data's bytes. Own work; a template. -/
namespace Go.Proofs.Ytdnfofhfllnhiaa.Patch
open Go.RowKit Go.Proofs.Ytdnfofhfllnhiaa.Q Go.Proofs.YtdnfofhfllnhiaaW.PrintWords Go.Proofs.YtdnfofhfllnhiaaW.PrintLast Go.Proofs.YtdnfofhfllnhiaaW.PrintMore Go.Proofs.Ytdnfofhfllnhiaa.Place Go.Proofs.Ytdnfofhfllnhiaa.Code
set_option linter.unusedVariables false
set_option linter.unusedSimpArgs false
/-! ## what May lets through -/
def FineD (dd : List S55) : Prop := ∀ j : Nat, j < dd.length → (1 ≤ (rd_T55 dd j).f0 ∧ (rd_T55 dd j).f0 ≤ 16 ∧ 1 ≤ (rd_T55 dd j).f2 ∧ (rd_T55 dd j).f2 ≤ 4096) ∧ (((rd_T55 dd j).f3).length : Int) ≤ (rd_T55 dd j).f2 ∧ (((rd_T55 dd j).f4).length : Int) ≤ 300
def FineF (ds : List S44) : Prop := ∀ j : Nat, j < ds.length → (((rd_T44 ds j).f3).length : Int) ≤ 70000 ∧ (((rd_T44 ds j).f4).length : Int) ≤ 300
structure Fit (ds : List S44) (dd : List S55) : Prop where
  lens : ds.length ≤ 300
  lend : dd.length ≤ 300
  funs : FineF ds
  dats : FineD dd
theorem Fit.small {ds : List S44} {dd : List S55} (h : Fit ds dd) : Small ds := by
  intro j
  by_cases hj : j.toNat < ds.length
  · have := (h.funs j.toNat hj).1
    unfold rd_T44 at this ⊢
    rw [Int.toNat_natCast] at this
    exact this
  · unfold rd_T44
    rw [List.getD_eq_getElem?_getD, List.getElem?_eq_none (by omega)]
    decide
theorem Fit.fine {ds : List S44} {dd : List S55} (h : Fit ds dd) : Fine dd := fun j hj => (h.dats j hj).1
theorem may_l1 (ds : List S44) (dd : List S55) (en : Int) (hl : dd.length ≤ 300) (d : Nat) : ∀ (i : Nat), i ≤ dd.length → dd.length - i = d →
    (∀ j : Nat, j < i → (1 ≤ (rd_T55 dd j).f0 ∧ (rd_T55 dd j).f0 ≤ 16 ∧ 1 ≤ (rd_T55 dd j).f2 ∧ (rd_T55 dd j).f2 ≤ 4096) ∧ (((rd_T55 dd j).f3).length : Int) ≤ (rd_T55 dd j).f2 ∧ (((rd_T55 dd j).f4).length : Int) ≤ 300) →
    ∃ b, Evt (fun k => spliceref12_May.l1 k i ds dd en) b ∧ (b = true → FineD dd) := by
  induction d with
  | zero =>
    intro i hi hd H
    refine ⟨true, Evt.of fun k => ?_, fun _ j hj => H j (by omega)⟩
    simp only [spliceref12_May.l1]
    rw [if_neg (by omega)]
  | succ d ih =>
    intro i hi hd H
    have hno : ∀ b : Bool, b = false → b = true → FineD dd := fun b h h' => by rw [h] at h'; cases h'
    have step : ∀ k, spliceref12_May.l1 (k + 1) i ds dd en = if (rd_T55 dd (i : Int)).f0 < 1 then some false else if (rd_T55 dd (i : Int)).f0 > 16 then some false else if (rd_T55 dd (i : Int)).f2 < 1 then some false else if (rd_T55 dd (i : Int)).f2 > 4096 then some false else if (((rd_T55 dd (i : Int)).f3).length : Int) > (rd_T55 dd (i : Int)).f2 then some false else if (((rd_T55 dd (i : Int)).f4).length : Int) > 300 then some false else spliceref12_May.l1 k ((i + 1 : Nat) : Int) ds dd en := by
      intro k
      simp only [spliceref12_May.l1]
      rw [if_pos (by omega), if_pos (by omega), w64 (x := (i : Int) + 1) (by omega) (by omega)]
      rfl
    by_cases h1 : (rd_T55 dd (i : Int)).f0 < 1
    · exact ⟨false, Evt.of fun k => by rw [step, if_pos h1], hno _ rfl⟩
    by_cases h2 : (rd_T55 dd (i : Int)).f0 > 16
    · exact ⟨false, Evt.of fun k => by rw [step, if_neg h1, if_pos h2], hno _ rfl⟩
    by_cases h3 : (rd_T55 dd (i : Int)).f2 < 1
    · exact ⟨false, Evt.of fun k => by rw [step, if_neg h1, if_neg h2, if_pos h3], hno _ rfl⟩
    by_cases h4 : (rd_T55 dd (i : Int)).f2 > 4096
    · exact ⟨false, Evt.of fun k => by rw [step, if_neg h1, if_neg h2, if_neg h3, if_pos h4], hno _ rfl⟩
    by_cases h5 : (((rd_T55 dd (i : Int)).f3).length : Int) > (rd_T55 dd (i : Int)).f2
    · exact ⟨false, Evt.of fun k => by rw [step, if_neg h1, if_neg h2, if_neg h3, if_neg h4, if_pos h5], hno _ rfl⟩
    by_cases h6 : (((rd_T55 dd (i : Int)).f4).length : Int) > 300
    · exact ⟨false, Evt.of fun k => by rw [step, if_neg h1, if_neg h2, if_neg h3, if_neg h4, if_neg h5, if_pos h6], hno _ rfl⟩
    obtain ⟨b, hb, hb'⟩ := ih (i + 1) (by omega) (by omega) (fun j hj => by
      by_cases e : j = i
      · subst e
        omega
      · exact H j (by omega))
    exact ⟨b, Evt.step (fun k => by rw [step, if_neg h1, if_neg h2, if_neg h3, if_neg h4, if_neg h5, if_neg h6]) hb, hb'⟩
theorem may_l0 (ds : List S44) (dd : List S55) (en : Int) (hd' : ds.length ≤ 300) (hl : dd.length ≤ 300) (d : Nat) : ∀ (i : Nat), i ≤ ds.length → ds.length - i = d →
    (∀ j : Nat, j < i → (((rd_T44 ds j).f3).length : Int) ≤ 70000 ∧ (((rd_T44 ds j).f4).length : Int) ≤ 300) →
    ∃ b, Evt (fun k => spliceref12_May.l0 k i ds dd en) b ∧ (b = true → Fit ds dd) := by
  induction d with
  | zero =>
    intro i hi hd H
    obtain ⟨b, hb, hb'⟩ := may_l1 ds dd en hl dd.length 0 (by omega) (by omega) (fun j hj => by omega)
    refine ⟨b, Evt.step (fun k => ?_) hb, fun h => ⟨hd', hl, fun j hj => H j (by omega), hb' h⟩⟩
    simp only [spliceref12_May.l0]
    rw [if_neg (by omega)]
    rfl
  | succ d ih =>
    intro i hi hd H
    have step : ∀ k, spliceref12_May.l0 (k + 1) i ds dd en = if (((rd_T44 ds (i : Int)).f3).length : Int) > 70000 then some false else if (((rd_T44 ds (i : Int)).f4).length : Int) > 300 then some false else spliceref12_May.l0 k ((i + 1 : Nat) : Int) ds dd en := by
      intro k
      simp only [spliceref12_May.l0]
      rw [if_pos (by omega), if_pos (by omega), w64 (x := (i : Int) + 1) (by omega) (by omega)]
      rfl
    by_cases h1 : (((rd_T44 ds (i : Int)).f3).length : Int) > 70000
    · exact ⟨false, Evt.of fun k => by rw [step, if_pos h1], fun h => by cases h⟩
    by_cases h2 : (((rd_T44 ds (i : Int)).f4).length : Int) > 300
    · exact ⟨false, Evt.of fun k => by rw [step, if_neg h1, if_pos h2], fun h => by cases h⟩
    obtain ⟨b, hb, hb'⟩ := ih (i + 1) (by omega) (by omega) (fun j hj => by
      by_cases e : j = i
      · subst e
        omega
      · exact H j (by omega))
    exact ⟨b, Evt.step (fun k => by rw [step, if_neg h1, if_neg h2]) hb, hb'⟩
theorem may_eq (ds : List S44) (dd : List S55) (en : Int) : ∃ b, Evt (fun k => spliceref12_May.f k ds dd en) b ∧ (b = true → Fit ds dd) := by
  by_cases h1 : (ds.length : Int) > 300
  · refine ⟨false, ?_, fun h => by cases h⟩
    refine Evt.congr (fun k => if_pos h1) (Evt.of fun k => ?_)
    simp only [spliceref12_May.j0]
    rfl
  by_cases h2 : (dd.length : Int) > 300
  · refine ⟨false, ?_, fun h => by cases h⟩
    refine Evt.congr (fun k => if_neg h1) (Evt.of fun k => ?_)
    rw [decide_eq_true h2]
    simp only [spliceref12_May.j0]
    rfl
  · obtain ⟨b, hb, hb'⟩ := may_l0 ds dd en (by omega) (by omega) ds.length 0 (by omega) (by omega) (fun j hj => by omega)
    refine ⟨b, ?_, hb'⟩
    refine Evt.congr (fun k => if_neg h1) (Evt.step (fun k => ?_) hb)
    rw [decide_eq_false h2]
    simp only [spliceref12_May.j0]
    rfl
theorem awake13 : Evt (fun k => splicelaw13_awake.f k) true := Evt.mono splicelaw13_awake.mono 80 (by decide +kernel)
/-! ## what Right lets through -/
theorem rd_in {α : Type} {l : List α} {z : α} {i : Nat} (h : i < l.length) : l.getD i z ∈ l := by
  rw [List.getD_eq_getElem?_getD, List.getElem?_eq_getElem h]
  exact List.getElem_mem h
/-- A function's relocations: each behind the one ahead, its kind with its instruction. -/
def ROk (n m : Int) (c : List Int) : Int → List S46 → Prop
  | _, [] => True
  | p, r :: rs => (p < r.f0 ∧ 0 ≤ r.f0 ∧ r.f0 < (c.length : Int) ∧ -1048576 ≤ r.f3 ∧ r.f3 ≤ 1048576 ∧ 0 ≤ r.f2) ∧
      (∃ o a b cc i, gW (rd c r.f0) = some (o, a, b, cc, i) ∧ ((r.f1 = 1 ∧ (o = 19 ∨ o = 20) ∧ r.f2 < n) ∨ (r.f1 = 2 ∧ o = 9 ∧ r.f2 < m) ∨ (r.f1 = 3 ∧ o = 10 ∧ r.f2 < m))) ∧ ROk n m c r.f0 rs
theorem relC_ok {n m : Int} {f : S44} {j : Nat} (h : relC n m f j = true) :
    (0 ≤ (rd_T46 f.f4 j).f0 ∧ (rd_T46 f.f4 j).f0 < (f.f3.length : Int) ∧ (0 < j → (rd_T46 f.f4 ((j : Int) - 1)).f0 < (rd_T46 f.f4 j).f0) ∧ -1048576 ≤ (rd_T46 f.f4 j).f3 ∧ (rd_T46 f.f4 j).f3 ≤ 1048576 ∧ 0 ≤ (rd_T46 f.f4 j).f2) ∧
    (∃ o a b cc i, gW (rd f.f3 (rd_T46 f.f4 j).f0) = some (o, a, b, cc, i) ∧ (((rd_T46 f.f4 j).f1 = 1 ∧ (o = 19 ∨ o = 20) ∧ (rd_T46 f.f4 j).f2 < n) ∨ ((rd_T46 f.f4 j).f1 = 2 ∧ o = 9 ∧ (rd_T46 f.f4 j).f2 < m) ∨ ((rd_T46 f.f4 j).f1 = 3 ∧ o = 10 ∧ (rd_T46 f.f4 j).f2 < m))) := by
  unfold relC at h
  rw [Bool.and_eq_true, Bool.not_eq_true'] at h
  obtain ⟨h0, h1⟩ := h
  unfold relC0 at h0
  unfold relC1 at h1
  generalize rd_T46 f.f4 (j : Int) = r at *
  simp only at h0 h1
  split at h0
  · cases h0
  split at h0
  · cases h0
  split at h0
  · cases h0
  split at h0
  · cases h0
  split at h0
  · cases h0
  have h2 := of_decide_eq_false h0
  refine ⟨by omega, ?_⟩
  rcases hg : Code.gW (rd f.f3 r.f0) with _ | ⟨o, a, b, cc, i⟩
  · rw [hg] at h1
    simp [Code.getB] at h1
  · rw [hg] at h1
    simp [Code.getB] at h1
    refine ⟨o, a, b, cc, i, rfl, ?_⟩
    omega
theorem drop_rel {l : List S46} {j : Nat} (h : j < l.length) : l.drop j = rd_T46 l j :: l.drop (j + 1) := by
  rw [List.drop_eq_getElem_cons h]
  have : rd_T46 l j = l[j] := by unfold rd_T46; simp [List.getD_eq_getElem?_getD, h]
  rw [this]
theorem rok_of {n m : Int} {f : S44} (H : ∀ j : Nat, j < f.f4.length → relC n m f j = true) (d : Nat) : ∀ (j : Nat) (p : Int), j ≤ f.f4.length → f.f4.length - j = d → (j = 0 ∧ p = -1 ∨ 0 < j ∧ p = (rd_T46 f.f4 ((j : Int) - 1)).f0) → ROk n m f.f3 p (f.f4.drop j) := by
  induction d with
  | zero =>
    intro j p hj hd hp
    rw [List.drop_of_length_le (by omega)]
    trivial
  | succ d ih =>
    intro j p hj hd hp
    have hlt : j < f.f4.length := by omega
    rw [drop_rel hlt]
    obtain ⟨h1, h2⟩ := relC_ok (H j hlt)
    refine ⟨⟨?_, h1.1, h1.2.1, h1.2.2.2.1, h1.2.2.2.2.1, h1.2.2.2.2.2⟩, h2, ih (j + 1) _ (by omega) (by omega) (.inr ⟨by omega, ?_⟩)⟩
    · rcases hp with ⟨_, rfl⟩ | ⟨q, rfl⟩
      · omega
      · exact h1.2.2.1 q
    · have : ((j + 1 : Nat) : Int) - 1 = (j : Int) := by omega
      rw [this]
/-- Data's relocations: words, apart from one another. -/
def DOk (m : Int) (s : Int) : Int → List S46 → Prop
  | _, [] => True
  | p, r :: rs => (p + 4 ≤ r.f0 ∧ 0 ≤ r.f0 ∧ r.f0 + 4 ≤ s ∧ -1048576 ≤ r.f3 ∧ r.f3 ≤ 1048576 ∧ 0 ≤ r.f2 ∧ r.f2 < m) ∧ DOk m s r.f0 rs
theorem relD_ok {m : Int} {d : S55} {j : Nat} (hs : 1 ≤ d.f2 ∧ d.f2 ≤ 4096) (h : relD0 m d j = false) (hp : 0 < j → 0 ≤ (rd_T46 d.f4 ((j : Int) - 1)).f0 ∧ (rd_T46 d.f4 ((j : Int) - 1)).f0 ≤ 4096) :
    0 ≤ (rd_T46 d.f4 j).f0 ∧ (rd_T46 d.f4 j).f0 + 4 ≤ d.f2 ∧ (0 < j → (rd_T46 d.f4 ((j : Int) - 1)).f0 + 4 ≤ (rd_T46 d.f4 j).f0) ∧ -1048576 ≤ (rd_T46 d.f4 j).f3 ∧ (rd_T46 d.f4 j).f3 ≤ 1048576 ∧ 0 ≤ (rd_T46 d.f4 j).f2 ∧ (rd_T46 d.f4 j).f2 < m := by
  unfold relD0 at h
  generalize rd_T46 d.f4 (j : Int) = r at *
  generalize rd_T46 d.f4 ((j : Int) - 1) = q at *
  simp only at h
  split at h
  · cases h
  split at h
  · cases h
  split at h
  · cases h
  split at h
  · cases h
  split at h
  · cases h
  split at h
  · cases h
  split at h
  · cases h
  have h2 := of_decide_eq_false h
  rename_i a1 a2 a3 a4 a5 a6 a7
  rw [w64 (by omega) (by omega)] at a3
  refine ⟨by omega, by omega, fun hj => ?_, by omega, by omega, by omega, by omega⟩
  have := hp hj
  rw [w64 (by omega) (by omega)] at a4
  omega
theorem dok_of {m : Int} {d : S55} (hs : 1 ≤ d.f2 ∧ d.f2 ≤ 4096) (H : ∀ j : Nat, j < d.f4.length → relD0 m d j = false) (e : Nat) : ∀ (j : Nat) (p : Int), j ≤ d.f4.length → d.f4.length - j = e → (j = 0 ∧ p = -4 ∨ 0 < j ∧ p = (rd_T46 d.f4 ((j : Int) - 1)).f0 ∧ 0 ≤ p ∧ p ≤ 4096) → DOk m d.f2 p (d.f4.drop j) := by
  induction e with
  | zero =>
    intro j p hj hd hp
    rw [List.drop_of_length_le (by omega)]
    trivial
  | succ e ih =>
    intro j p hj hd hp
    have hlt : j < d.f4.length := by omega
    rw [drop_rel hlt]
    have h1 := relD_ok hs (H j hlt) (fun hj => by
      rcases hp with ⟨q, _⟩ | ⟨_, q, q1, q2⟩
      · omega
      · rw [← q]
        exact ⟨q1, q2⟩)
    have h3 : ((j + 1 : Nat) : Int) - 1 = (j : Int) := by omega
    refine ⟨⟨?_, h1.1, h1.2.1, h1.2.2.2.1, h1.2.2.2.2.1, h1.2.2.2.2.2⟩, ih (j + 1) _ (by omega) (by omega) (.inr ⟨by omega, by rw [h3], h1.1, by omega⟩)⟩
    rcases hp with ⟨_, rfl⟩ | ⟨q, rfl, _⟩
    · omega
    · exact h1.2.2.1 q
/-- What Right lets through. -/
structure Good (ds : List S44) (dd : List S55) : Prop where
  fit : Fit ds dd
  u32 : ∀ i : Nat, i < ds.length → ∀ x ∈ (rd_T44 ds i).f3, U32 x
  rels : ∀ i : Nat, i < ds.length → ROk ds.length dd.length (rd_T44 ds i).f3 (-1) (rd_T44 ds i).f4
  dels : ∀ i : Nat, i < dd.length → DOk dd.length (rd_T55 dd i).f2 (-4) (rd_T55 dd i).f4
theorem right_eq (ds : List S44) (dd : List S55) (en : Int) (w : W25 ⟨ds, dd, en⟩) : spliceref13_Right.f ds dd en = some (rightB ds dd) := by
  obtain ⟨⟨h1, h2⟩, ⟨h3, h4⟩, _⟩ := w
  refine if_pos ⟨by simp only at h1; omega, by simp only at h3; omega, fun f hf => ?_, fun d hd => ?_⟩
  · obtain ⟨_, _, _, ⟨a1, a2⟩, a3, _⟩ := h2 f hf
    exact ⟨by omega, by omega, fun x hx => a2 x hx⟩
  · obtain ⟨_, _, _, _, a3, _⟩ := h4 d hd
    omega
theorem good_of {ds : List S44} {dd : List S55} {en : Int} (w : W25 ⟨ds, dd, en⟩) (hf : Fit ds dd) (h : rightB ds dd = true) : Good ds dd := by
  unfold rightB at h
  rw [Bool.and_eq_true, List.all_eq_true, List.all_eq_true] at h
  refine ⟨hf, fun i hi => ?_, fun i hi => ?_, fun i hi => ?_⟩
  · have hm : rd_T44 ds i ∈ ds := by unfold rd_T44; rw [Int.toNat_natCast]; exact rd_in hi
    exact (w.1.2 _ hm).2.2.2.1.2
  · have h1 := h.1 i (List.mem_range.2 hi)
    unfold relsC at h1
    rw [List.all_eq_true] at h1
    have := rok_of (fun j hj => h1 j (List.mem_range.2 hj)) (rd_T44 ds i).f4.length 0 (-1) (by omega) (by omega) (.inl ⟨rfl, rfl⟩)
    simpa using this
  · have h1 := h.2 i (List.mem_range.2 hi)
    unfold relsD at h1
    rw [List.all_eq_true] at h1
    obtain ⟨⟨_, _, b1, b2⟩, _⟩ := hf.dats i hi
    have := dok_of ⟨b1, b2⟩ (fun j hj => by simpa using h1 j (List.mem_range.2 hj)) (rd_T55 dd i).f4.length 0 (-4) (by omega) (by omega) (.inl ⟨rfl, rfl⟩)
    simpa using this
end Go.Proofs.Ytdnfofhfllnhiaa.Patch

/- The layer 'patch' in plain Lean: the plan's bounds; what a function's words and data's bytes come to. Own work; a template. -/
namespace Go.Proofs.Ytdnfofhfllnhiaa.Patch
open Go.RowKit Go.Proofs.Ytdnfofhfllnhiaa.Q Go.Proofs.YtdnfofhfllnhiaaW.PrintWords Go.Proofs.YtdnfofhfllnhiaaW.PrintLast Go.Proofs.YtdnfofhfllnhiaaW.PrintMore Go.Proofs.Ytdnfofhfllnhiaa.Place Go.Proofs.Ytdnfofhfllnhiaa.Code
set_option linter.unusedVariables false
set_option linter.unusedSimpArgs false
/-! ## the plan's bounds -/
theorem rd_out {xs : List Int} {j : Int} (h : xs.length ≤ j.toNat) : rd xs j = 0 := by
  unfold rd
  rw [List.getD_eq_getElem?_getD, List.getElem?_eq_none h]
  rfl
theorem rd_set_or (xs : List Int) (i : Nat) (v j : Int) : rd (xs.set i v) j = v ∨ rd (xs.set i v) j = rd xs j := by
  unfold rd
  rw [List.getD_eq_getElem?_getD, List.getD_eq_getElem?_getD, List.getElem?_set]
  by_cases h : i = j.toNat
  · by_cases h2 : i < xs.length
    · left
      rw [if_pos h, if_pos h2]
      rfl
    · right
      rw [if_pos h, if_neg h2, List.getElem?_eq_none (by omega)]
  · right
    rw [if_neg h]
theorem rd_repl (n : Nat) (v j : Int) : rd (List.replicate n v) j = v ∨ rd (List.replicate n v) j = 0 := by
  unfold rd
  rw [List.getD_eq_getElem?_getD, List.getElem?_replicate]
  split
  · exact .inl rfl
  · exact .inr rfl
theorem cL_bound (ds : List S44) : ∀ (os xs : List Int) (w : Int) (ys : List Int) (v : Int), cL ds os xs w = some (ys, v) → 0 ≤ w → (∀ j, -1 ≤ rd xs j ∧ rd xs j ≤ w) → w ≤ v ∧ (∀ j, -1 ≤ rd ys j ∧ rd ys j ≤ v) ∧ ys.length = xs.length
  | [], xs, w, ys, v, h, h0, H => by
    simp only [cL, Option.some.injEq, Prod.mk.injEq] at h
    obtain ⟨rfl, rfl⟩ := h
    exact ⟨Int.le_refl _, H, rfl⟩
  | f :: fs, xs, w, ys, v, h, h0, H => by
    unfold cL at h
    split at h
    · cases h
    · have := cL_bound ds fs _ _ _ _ h (by omega) (fun j => by
        have := H j
        rcases rd_set_or xs f.toNat w j with e | e <;> omega)
      rw [List.length_set] at this
      exact ⟨by omega, this.2⟩
theorem layD_bound2 (fx : Bool) (dd : List S55) (hf : Fine dd) (d : Nat) : ∀ (i : Nat) (xs : List Int) (e : Int), i ≤ dd.length → dd.length - i = d → 0 ≤ e → e + d * 4111 ≤ 100000000 → (∀ j, 0 ≤ rd xs j ∧ rd xs j ≤ e) →
    e ≤ (layD fx (dd.drop i) i xs e).2 ∧ (layD fx (dd.drop i) i xs e).2 ≤ e + d * 4111 ∧ (∀ j, 0 ≤ rd (layD fx (dd.drop i) i xs e).1 j ∧ rd (layD fx (dd.drop i) i xs e).1 j ≤ (layD fx (dd.drop i) i xs e).2) := by
  induction d with
  | zero =>
    intro i xs e hi hd h0 h1 H
    rw [List.drop_of_length_le (by omega)]
    simp only [layD]
    exact ⟨by omega, by omega, H⟩
  | succ d ih =>
    intro i xs e hi hd h0 h1 H
    rw [layD_dr fx dd i (by omega)]
    obtain ⟨a1, a2, a3, a4⟩ := hf i (by omega)
    split
    · obtain ⟨b1, b2, _⟩ := up_facts h0 (by omega) a1 a2
      rw [w64 (by omega) (by omega)]
      have := ih (i + 1) (xs.set i (upZ e (rd_T55 dd i).f0)) (upZ e (rd_T55 dd i).f0 + (rd_T55 dd i).f2) (by omega) (by omega) (by omega) (by omega) (fun j => by
        have := H j
        rcases rd_set_or xs i (upZ e (rd_T55 dd i).f0) j with e | e <;> omega)
      exact ⟨by omega, by omega, this.2.2⟩
    · have := ih (i + 1) xs e (by omega) (by omega) (by omega) (by omega) H
      exact ⟨by omega, by omega, this.2.2⟩
/-- A plan that stands. -/
structure Planned (ds : List S44) (dd : List S55) (xs ys : List Int) : Prop where
  lx : xs.length = ds.length
  ly : ys.length = dd.length
  bx : ∀ j, -1 ≤ rd xs j ∧ rd xs j ≤ 65536
  by' : ∀ j, 0 ≤ rd ys j ∧ rd ys j ≤ 65536
theorem planned {ds : List S44} {dd : List S55} {en : Int} {os : List Int} (hf : Fit ds dd) (h : (planS ds dd en os).2.2.2.2.2 = 0) : Planned ds dd (planS ds dd en os).1 (planS ds dd en os).2.1 := by
  unfold planS at h ⊢
  generalize hc : cL ds os (List.replicate ds.length (-1)) 0 = c at h ⊢
  rcases c with _ | ⟨xs, w⟩
  · simp [resR] at h
  · obtain ⟨c1, c2, c3⟩ := cL_bound ds _ _ _ _ _ hc (by omega) (fun j => by rcases rd_repl ds.length (-1) j with e | e <;> omega)
    rw [List.length_replicate] at c3
    simp only [resR] at h ⊢
    split at h
    · rename_i hok
      rw [if_pos hok]
      unfold fin at h ⊢
      simp only at h ⊢
      have hl := hf.lend
      obtain ⟨d1, d2, d3⟩ := layD_bound2 true dd hf.fine dd.length 0 (List.replicate dd.length 0) 0 (by omega) (by omega) (by omega) (by omega) (fun j => by rcases rd_repl dd.length 0 j with e | e <;> omega)
      rw [List.drop_zero] at d1 d2 d3
      obtain ⟨u1, u2, _⟩ := up_facts (al := 16) d1 (by omega) (by omega) (by omega)
      obtain ⟨e1, e2, e3⟩ := layD_bound2 false dd hf.fine dd.length 0 (layD true dd 0 (List.replicate dd.length 0) 0).1 (upZ (layD true dd 0 (List.replicate dd.length 0) 0).2 16) (by omega) (by omega) (by omega) (by omega) (fun j => by have := d3 j; omega)
      rw [List.drop_zero] at e1 e2 e3
      have hq := (layD_len false dd 0 (layD true dd 0 (List.replicate dd.length 0) 0).1 (upZ (layD true dd 0 (List.replicate dd.length 0) 0).2 16)).trans ((layD_len true dd 0 (List.replicate dd.length 0) 0).trans List.length_replicate)
      split at h
      · simp at h
      · split at h
        · simp at h
        · rename_i g1 g2
          rw [if_neg g1, if_neg g2]
          exact ⟨c3, hq, fun j => ⟨(c2 j).1, Int.le_trans (c2 j).2 (by omega)⟩, fun j => ⟨(e3 j).1, Int.le_trans (e3 j).2 (by omega)⟩⟩
    · simp at h
/-! ## a function's words -/
/-- What an instruction's Imm becomes; none: it doesn't fit. -/
def immB (xs ys : List Int) (a : Int) (r : S46) : Option Int :=
  if r.f1 = 1 then (if 0 ≤ rd xs r.f2 ∧ -8388608 ≤ rd xs r.f2 - a - r.f0 - 1 ∧ rd xs r.f2 - a - r.f0 - 1 ≤ 8388607 then some (rd xs r.f2 - a - r.f0 - 1) else none)
  else if 0 ≤ 65536 + rd ys r.f2 + r.f3 then some (if r.f1 = 2 then (65536 + rd ys r.f2 + r.f3) / 65536 else (65536 + rd ys r.f2 + r.f3) % 65536) else none
/-- A word with another Imm. -/
def reW (w n : Int) : Int := match gW w with
  | some (o, a, b, c, _) => word o a b c n
  | none => 0
def codeB (xs ys : List Int) (a : Int) : List S46 → List Int → List Int × Int
  | [], out => (out, 0)
  | r :: rs, out => match immB xs ys a r with
    | none => ([], 7)
    | some n => codeB xs ys a rs (out.set r.f0.toNat (reW (rd out r.f0) n))
/-- The new Imm is a right one. -/
theorem imm_right {n m : Int} {xs ys : List Int} {a : Int} {r : S46} {o a' b c i v : Int} (hy : ∀ j, 0 ≤ rd ys j ∧ rd ys j ≤ 65536) (h3 : -1048576 ≤ r.f3 ∧ r.f3 ≤ 1048576) (hk : (r.f1 = 1 ∧ (o = 19 ∨ o = 20) ∧ r.f2 < n) ∨ (r.f1 = 2 ∧ o = 9 ∧ r.f2 < m) ∨ (r.f1 = 3 ∧ o = 10 ∧ r.f2 < m))
    (hr : Rt o a' b c i) (hv : immB xs ys a r = some v) : Rt o a' b c v := by
  unfold immB at hv
  have := hy r.f2
  rcases hk with ⟨e, g, _⟩ | ⟨e, rfl, _⟩ | ⟨e, rfl, _⟩
  · rw [if_pos e] at hv
    split at hv
    · rename_i q
      rw [Option.some.inj hv] at q
      rw [rt_far g] at hr ⊢
      exact ⟨hr.1, hr.2.1, hr.2.2.1, q.2⟩
    · cases hv
  · rw [if_neg (by omega)] at hv
    split at hv
    · try rw [if_pos e] at hv
      have := Option.some.inj hv
      rw [rt_9 rfl] at hr ⊢
      exact ⟨hr.1, hr.2.1, hr.2.2.1, by omega, by omega⟩
    · cases hv
  · rw [if_neg (by omega)] at hv
    split at hv
    · try rw [if_neg (by omega)] at hv
      have := Option.some.inj hv
      rw [rt_10 rfl] at hr ⊢
      exact ⟨hr.1, hr.2.1, hr.2.2.1, by omega, by omega⟩
    · cases hv
theorem value_eq (l0 l1 : List Int) (a2 a3 a4 b0 b1 b2 b3 : Int) (h : 0 ≤ b2 ∧ b2 < (l1.length : Int)) (hy : 0 ≤ rd l1 b2 ∧ rd l1 b2 ≤ 65536) (h3 : -1048576 ≤ b3 ∧ b3 ≤ 1048576) :
    patch_value.f l0 l1 a2 a3 a4 b0 b1 b2 b3 = some ((65536 + rd l1 b2 + b3) % 4294967296, decide (0 ≤ 65536 + rd l1 b2 + b3)) := by
  unfold patch_value.f place_Address.f
  rw [if_pos h.1, if_pos h.2]
  simp only [Option.bind_some, cut32]
  rw [w64 (x := 65536 + rd l1 b2) (by omega) (by omega), Int.emod_eq_of_lt (by omega) (by omega), w64 (x := 65536 + rd l1 b2) (by omega) (by omega), w64 (by omega) (by omega)]
  by_cases g : 0 ≤ 65536 + rd l1 b2 + b3
  · rw [if_pos g, decide_eq_true g, decide_eq_true (by omega)]
  · rw [if_neg g, decide_eq_false g]
theorem imm_eq (xs ys : List Int) (a2 a3 a4 a : Int) (r : S46) {n m : Int} {o : Int} (ha : -1 ≤ a ∧ a ≤ 65536) (hx : ∀ j, -1 ≤ rd xs j ∧ rd xs j ≤ 65536) (hy : ∀ j, 0 ≤ rd ys j ∧ rd ys j ≤ 65536) (h0 : 0 ≤ r.f0 ∧ r.f0 ≤ 70000) (h2 : 0 ≤ r.f2) (h3 : -1048576 ≤ r.f3 ∧ r.f3 ≤ 1048576)
    (hk : (r.f1 = 1 ∧ (o = 19 ∨ o = 20) ∧ r.f2 < (xs.length : Int)) ∨ (r.f1 = 2 ∧ o = 9 ∧ r.f2 < (ys.length : Int)) ∨ (r.f1 = 3 ∧ o = 10 ∧ r.f2 < (ys.length : Int))) :
    ∃ v ok, patch_imm.f xs ys a2 a3 a4 a r.f0 r.f1 r.f2 r.f3 = some (v, ok) ∧ immB xs ys a r = if ok = true then some v else none := by
  unfold patch_imm.f immB
  have q := hx r.f2
  have q2 := hy r.f2
  rcases hk with ⟨e, g, l⟩ | ⟨e, g, l⟩ | ⟨e, g, l⟩
  · rw [if_pos e, if_pos h2, if_pos l, if_pos e, w64 (x := rd xs r.f2 - a) (by omega) (by omega), w64 (x := rd xs r.f2 - a - r.f0) (by omega) (by omega), w64 (by omega) (by omega), fits24]
    by_cases g1 : 0 ≤ rd xs r.f2
    · refine ⟨_, _, if_pos g1, ?_⟩
      by_cases g2 : -8388608 ≤ rd xs r.f2 - a - r.f0 - 1 ∧ rd xs r.f2 - a - r.f0 - 1 ≤ 8388607
      · rw [if_pos ⟨g1, g2⟩, decide_eq_true g2, if_pos rfl]
      · rw [if_neg (fun h => g2 h.2), decide_eq_false g2]
        rfl
    · refine ⟨_, _, if_neg g1, ?_⟩
      rw [if_neg (fun h => g1 h.1)]
      rfl
  · rw [if_neg (by omega), if_neg (by omega), value_eq xs ys a2 a3 a4 r.f0 r.f1 r.f2 r.f3 ⟨h2, l⟩ q2 h3, Option.bind_some, if_pos e]
    refine ⟨_, _, rfl, ?_⟩
    by_cases g1 : 0 ≤ 65536 + rd ys r.f2 + r.f3
    · rw [if_pos g1, if_pos e, decide_eq_true g1, if_pos rfl, Int.emod_eq_of_lt g1 (by omega), w64 (by omega) (by omega)]
    · rw [if_neg g1, decide_eq_false g1]
      rfl
  · rw [if_neg (by omega), if_neg (by omega), value_eq xs ys a2 a3 a4 r.f0 r.f1 r.f2 r.f3 ⟨h2, l⟩ q2 h3, Option.bind_some, if_neg (by omega), cut16]
    refine ⟨_, _, rfl, ?_⟩
    by_cases g1 : 0 ≤ 65536 + rd ys r.f2 + r.f3
    · rw [if_pos g1, if_neg (by omega), decide_eq_true g1, if_pos rfl, Int.emod_eq_of_lt (a := 65536 + rd ys r.f2 + r.f3) (b := 4294967296) g1 (by omega), w64 (x := 65536 + rd ys r.f2 + r.f3) (by omega) (by omega), w64 (by omega) (by omega)]
    · rw [if_neg g1, decide_eq_false g1]
      rfl
/-- What holds of the words so far: those behind the last one patched are as they were. -/
def Since (c out : List Int) (p : Int) : Prop := out.length = c.length ∧ ∀ j, p < j → rd out j = rd c j
theorem since_set {c out : List Int} {p q v : Int} (h : Since c out p) (h0 : 0 ≤ q) (hp : p < q) : Since c (out.set q.toNat v) q := by
  refine ⟨by rw [List.length_set]; exact h.1, fun j hj => ?_⟩
  rw [← h.2 j (by omega)]
  unfold rd
  rw [List.getD_eq_getElem?_getD, List.getElem?_set_ne (by omega), List.getD_eq_getElem?_getD]
theorem code_loop {ds : List S44} {dd : List S55} {xs ys : List Int} (hp : Planned ds dd xs ys) (c : List Int) (hu : ∀ x ∈ c, U32 x) (hc : c.length ≤ 70000) (a2 a3 a4 f : Int) (hf0 : 0 ≤ f) (hf : f < (xs.length : Int)) (l : List S46) (hl : l.length ≤ 300) (d : Nat) :
    ∀ (i : Nat) (out : List Int) (p : Int), i ≤ l.length → l.length - i = d → Since c out p → ROk ds.length dd.length c p (l.drop i) →
    Evt (fun k => patch_Code.l0 k f out l (l.length : Int) i xs ys a2 a3 a4) (codeB xs ys (rd xs f) (l.drop i) out) := by
  induction d with
  | zero =>
    intro i out p hi hd hs hr
    rw [List.drop_of_length_le (by omega)]
    refine Evt.of fun k => ?_
    simp only [patch_Code.l0]
    rw [if_neg (by omega)]
    rfl
  | succ d ih =>
    intro i out p hi hd hs hr
    have hlt : i < l.length := by omega
    have hi1 : i + 1 ≤ l.length := by omega
    have hd1 : l.length - (i + 1) = d := by omega
    have e1 : wrap64 ((i : Int) + 1) = ((i + 1 : Nat) : Int) := by rw [w64 (by omega) (by omega)]; omega
    rw [drop_rel hlt] at hr ⊢
    generalize hrr : rd_T46 l (i : Int) = r at hr ⊢
    obtain ⟨⟨r1, r2, r3, r4, r5, r6⟩, ⟨o, a, b, cc, im, hg, hk⟩, hr'⟩ := hr
    have hcin : rd c r.f0 ∈ c := by unfold rd; exact rd_in (by omega)
    have hgs := gW_some (hu _ hcin) hg
    have hro : rd out r.f0 = rd c r.f0 := hs.2 _ r1
    have hk' : (r.f1 = 1 ∧ (o = 19 ∨ o = 20) ∧ r.f2 < (xs.length : Int)) ∨ (r.f1 = 2 ∧ o = 9 ∧ r.f2 < (ys.length : Int)) ∨ (r.f1 = 3 ∧ o = 10 ∧ r.f2 < (ys.length : Int)) := by
      rw [hp.lx, hp.ly]
      exact hk
    obtain ⟨v, ok, hv1, hv2⟩ := imm_eq xs ys a2 a3 a4 (rd xs f) r (n := ds.length) (m := dd.length) (o := o) (hp.bx f) hp.bx hp.by' ⟨r2, by omega⟩ r6 ⟨r4, r5⟩ hk'
    have hlo := hs.1
    have step : ∀ k, patch_Code.l0 (k + 1) f out l (l.length : Int) i xs ys a2 a3 a4 = (code_Get.f k (rd out r.f0)).bind fun bt => if ok = true then patch_Code.j1 k f out v l (l.length : Int) i (bt.2.2.2.2.2 != 0) xs ys a2 a3 a4 r.f0 r.f1 r.f2 r.f3 bt.1 bt.2.1 bt.2.2.1 bt.2.2.2.1 bt.2.2.2.2.1 else patch_Code.j1 k f out v l (l.length : Int) i true xs ys a2 a3 a4 r.f0 r.f1 r.f2 r.f3 bt.1 bt.2.1 bt.2.2.1 bt.2.2.2.1 bt.2.2.2.2.1 := by
      intro k
      simp only [patch_Code.l0]
      rw [if_pos (by omega), if_pos (by omega), if_pos (by omega), if_pos (by omega), if_pos (by omega), hrr, hv1, Option.bind_some, if_pos r2, if_pos (by omega)]
    have hget : Evt (fun k => code_Get.f k (rd out r.f0)) (o, a, b, cc, im, 0) := ⟨2, fun k hk2 => by
      obtain ⟨k, rfl⟩ : ∃ m, k = m + 2 := ⟨k - 2, by omega⟩
      show code_Get.f (k + 2) (rd out r.f0) = _
      rw [hro, get_eq k (hu _ hcin), hg]
      rfl⟩
    refine Evt.step step ?_
    refine Evt.bind hget ?_
    unfold codeB
    rw [hv2]
    cases ok with
    | false =>
      refine Evt.congr (fun k => if_neg (by decide)) ?_
      refine Evt.of fun k => ?_
      simp only [patch_Code.j1]
      rfl
    | true =>
      refine Evt.congr (fun k => if_pos rfl) ?_
      rw [if_pos rfl] at hv2 ⊢
      have hrt := imm_right hp.by' ⟨r4, r5⟩ hk hgs.1 hv2
      have hre : reW (rd out r.f0) v = word o a b cc v := by
        unfold reW
        rw [hro, hg]
      simp only
      rw [hre]
      have hput : Evt (fun k => code_Put.f k o a b cc v) (word o a b cc v, 0) := ⟨1, fun k hk2 => by
        obtain ⟨k, rfl⟩ : ∃ m, k = m + 1 := ⟨k - 1, by omega⟩
        show code_Put.f (k + 1) o a b cc v = _
        rw [put_eq, if_pos hrt]⟩
      refine Evt.step (h := fun k => (code_Put.f k o a b cc v).bind fun bt => (if 0 ≤ r.f0 then (if r.f0 < (out.length : Int) then (if bt.2 = 0 then (patch_Code.l0 k f (out.set (r.f0 : Int).toNat bt.1) l (l.length : Int) (wrap64 ((i : Int) + 1)) xs ys a2 a3 a4) else (some (([] : List Int), 7))) else none) else none)) (fun k => by simp only [patch_Code.j1]; exact if_neg (by decide)) ?_
      refine Evt.bind hput ?_
      have hs2 : Since c (out.set r.f0.toNat (word o a b cc v)) r.f0 := since_set hs r2 r1
      have hlo2 : r.f0 < (out.length : Int) := by omega
      refine Evt.congr (h := fun k => patch_Code.l0 k f (out.set r.f0.toNat (word o a b cc v)) l (l.length : Int) ((i + 1 : Nat) : Int) xs ys a2 a3 a4) (fun k => ?_) (ih (i + 1) (out.set r.f0.toNat (word o a b cc v)) r.f0 hi1 hd1 hs2 hr')
      show (if 0 ≤ r.f0 then _ else _) = _
      rw [if_pos r2, if_pos hlo2, e1]
      exact if_pos rfl
theorem code_eq {ds : List S44} {dd : List S55} {xs ys : List Int} (hg : Good ds dd) (hp : Planned ds dd xs ys) (en a2 a3 a4 : Int) (f : Nat) (hf : f < ds.length) :
    Evt (fun k => patch_Code.f k ds dd en xs ys a2 a3 a4 f) (codeB xs ys (rd xs f) (rd_T44 ds f).f4 (rd_T44 ds f).f3) := by
  obtain ⟨h1, h2⟩ := hg.fit.funs f hf
  have hl := hp.lx
  have h := code_loop hp (rd_T44 ds f).f3 (hg.u32 f hf) (by omega) a2 a3 a4 f (by omega) (by omega) (rd_T44 ds f).f4 (by omega) (rd_T44 ds f).f4.length 0 (rd_T44 ds f).f3 (-1) (by omega) (by omega) ⟨rfl, fun _ _ => rfl⟩ (by rw [List.drop_zero]; exact hg.rels f hf)
  rw [List.drop_zero] at h
  refine Evt.congr (fun k => ?_) h
  unfold patch_Code.f slices_Clone_uint32_uint32.f
  rw [if_pos (by omega), if_pos (by omega), if_pos (by omega), Option.bind_some]
  rfl
end Go.Proofs.Ytdnfofhfllnhiaa.Patch

/- The layer 'patch' in plain Lean: data's bytes; comparisons. Own work; a template. -/
namespace Go.Proofs.Ytdnfofhfllnhiaa.Patch
open Go.RowKit Go.Proofs.Ytdnfofhfllnhiaa.Q Go.Proofs.YtdnfofhfllnhiaaW.PrintWords Go.Proofs.YtdnfofhfllnhiaaW.PrintLast Go.Proofs.YtdnfofhfllnhiaaW.PrintMore Go.Proofs.Ytdnfofhfllnhiaa.Place Go.Proofs.Ytdnfofhfllnhiaa.Code
set_option linter.unusedVariables false
set_option linter.unusedSimpArgs false
theorem codeB_len (xs ys : List Int) (a : Int) : ∀ (l : List S46) (out : List Int), (codeB xs ys a l out).1.length ≤ out.length
  | [], out => Nat.le_refl _
  | r :: rs, out => by
    unfold codeB
    split
    · simp
    · have := codeB_len xs ys a rs (out.set r.f0.toNat (reW (rd out r.f0) (by assumption)))
      rw [List.length_set] at this
      exact this
/-! ## data's bytes -/
def bytes4 (v : Int) : List Int := [v % 256, v / 256 % 256, v / 65536 % 256, v / 16777216 % 256]
def dataT (ys : List Int) : List S46 → List Int → List Int × Int
  | [], out => (out, 0)
  | r :: rs, out => if 0 ≤ 65536 + rd ys r.f2 + r.f3 then dataT ys rs (splice out r.f0.toNat (bytes4 (65536 + rd ys r.f2 + r.f3))) else ([], 7)
theorem dataT_len (ys : List Int) {m s : Int} : ∀ (l : List S46) (out : List Int) (p : Int), DOk m s p l → (out.length : Int) = s → (dataT ys l out).1.length ≤ out.length
  | [], out, p, h, hs => Nat.le_refl _
  | r :: rs, out, p, h, hs => by
    unfold dataT
    obtain ⟨⟨h1, h2, h3, h4⟩, hr⟩ := h
    split
    · have e := length_splice out r.f0.toNat (bytes4 (65536 + rd ys r.f2 + r.f3)) (by simp [bytes4]; omega)
      have := dataT_len ys rs (splice out r.f0.toNat (bytes4 (65536 + rd ys r.f2 + r.f3))) r.f0 hr (by rw [e]; exact hs)
      rw [e] at this
      exact this
    · simp
theorem valD_eq {x y : Int} (hx : 0 ≤ x ∧ x ≤ 65536) (hy : -1048576 ≤ y ∧ y ≤ 1048576) : valD x y = 65536 + x + y := by
  unfold valD
  rw [w64 (x := 65536 + x) (by omega) (by omega), Int.emod_eq_of_lt (by omega) (by omega), w64 (x := 65536 + x) (by omega) (by omega), w64 (by omega) (by omega)]
theorem dataB_eq {ys : List Int} (hy : ∀ j, 0 ≤ rd ys j ∧ rd ys j ≤ 65536) {s : Int} : ∀ (l : List S46) (out : List Int) (p : Int), DOk ys.length s p l → (out.length : Int) = s → dataB ys l out = some (dataT ys l out)
  | [], out, p, h, hs => rfl
  | r :: rs, out, p, h, hs => by
    obtain ⟨⟨h1, h2, h3, h4, h5, h6, h7⟩, hr⟩ := h
    have e := length_splice out r.f0.toNat (bytes4 (65536 + rd ys r.f2 + r.f3)) (by simp [bytes4]; omega)
    unfold dataB dataT
    rw [if_pos ⟨h6, h7⟩, valD_eq (hy r.f2) ⟨h4, h5⟩]
    have := hy r.f2
    by_cases g : 0 ≤ 65536 + rd ys r.f2 + r.f3
    · rw [if_pos ⟨g, by omega⟩, if_pos g, if_pos ⟨h2, by omega⟩]
      exact dataB_eq hy rs _ r.f0 hr (by rw [← hs]; exact congrArg _ e)
    · rw [if_neg (fun h => g h.1), if_neg g]
/-- Data's bytes ahead of all relocations. -/
def raw (d : S55) : List Int := d.f3 ++ List.replicate (d.f2.toNat - d.f3.length) 0
theorem raw_len {d : S55} (h : (d.f3.length : Int) ≤ d.f2) : ((raw d).length : Int) = d.f2 := by
  unfold raw
  rw [List.length_append, List.length_replicate]
  omega
theorem data_eq {ds : List S44} {dd : List S55} {xs ys : List Int} (hg : Good ds dd) (hp : Planned ds dd xs ys) (en a2 a3 a4 : Int) (i : Nat) (hi : i < dd.length) :
    patch_Data.f ds dd en xs ys a2 a3 a4 i = some (dataT ys (rd_T55 dd i).f4 (raw (rd_T55 dd i))) := by
  obtain ⟨⟨h1, h2, h3, h4⟩, h5, h6⟩ := hg.fit.dats i hi
  unfold patch_Data.f
  rw [if_pos ⟨by omega, by omega, by omega, by omega, h5, by omega⟩]
  have h := hg.dels i hi
  rw [← hp.ly] at h
  exact dataB_eq hp.by' _ _ _ h (raw_len h5)
/-! ## comparisons -/
theorem words_self (xs : List Int) (hl : xs.length < 1000000) (d : Nat) : ∀ (i : Nat), i ≤ xs.length → xs.length - i = d → Evt (fun k => spliceref01_Words.l0 k xs xs i) true := by
  induction d with
  | zero =>
    intro i hi hd
    refine Evt.of fun k => ?_
    simp only [spliceref01_Words.l0]
    rw [if_neg (by omega)]
  | succ d ih =>
    intro i hi hd
    refine Evt.step (fun k => ?_) (ih (i + 1) (by omega) (by omega))
    simp only [spliceref01_Words.l0]
    rw [if_pos (by omega), if_pos (by omega), if_pos (by omega), if_pos trivial, w64 (by omega) (by omega)]
    rfl
theorem words_refl (xs : List Int) (hl : xs.length < 1000000) : Evt (fun k => spliceref01_Words.f k xs xs) true :=
  Evt.congr (fun k => if_pos rfl) (words_self xs hl xs.length 0 (by omega) (by omega))
theorem same_self (xs : List Int) (hl : xs.length < 1000000) (d : Nat) : ∀ (i : Nat), i ≤ xs.length → xs.length - i = d → Evt (fun k => spliceref01_Same.l0 k xs xs i) true := by
  induction d with
  | zero =>
    intro i hi hd
    refine Evt.of fun k => ?_
    simp only [spliceref01_Same.l0]
    rw [if_neg (by omega)]
  | succ d ih =>
    intro i hi hd
    refine Evt.step (fun k => ?_) (ih (i + 1) (by omega) (by omega))
    simp only [spliceref01_Same.l0]
    rw [if_pos (by omega), if_pos (by omega), if_pos (by omega), if_pos trivial, w64 (by omega) (by omega)]
    rfl
theorem bytes_refl (xs : List Int) (hl : xs.length < 1000000) : Evt (fun k => spliceref01_Same.f k xs xs) true :=
  Evt.congr (fun k => if_pos rfl) (same_self xs hl xs.length 0 (by omega) (by omega))
/-- What 'fine' lets through. -/
theorem fine_eq (ds : List S44) (dd : List S55) (en : Int) (os : List Int) (w : W25 ⟨ds, dd, en⟩) : ∃ b, Evt (fun k => splicelaw13_fine.f k ds dd en os) b ∧ (b = true → Good ds dd ∧ os.length ≤ 400) := by
  obtain ⟨b, hb, hb'⟩ := may_eq ds dd en
  unfold splicelaw13_fine.f
  cases b with
  | false => exact ⟨false, Evt.bind hb (Evt.of fun k => rfl), fun h => by cases h⟩
  | true =>
    cases hr : rightB ds dd with
    | false => exact ⟨false, Evt.bind hb (Evt.of fun k => by rw [if_pos rfl, right_eq ds dd en w, hr]; rfl), fun h => by cases h⟩
    | true => exact ⟨decide ((os.length : Int) ≤ 400), Evt.bind hb (Evt.of fun k => by rw [if_pos rfl, right_eq ds dd en w, hr]; rfl), fun h => ⟨good_of w (hb' rfl) hr, by have := of_decide_eq_true h; omega⟩⟩
theorem all_loop (n : Nat) (hn : n ≤ 2000000000000) (d : Nat) : ∀ (i : Nat) (xs : List Int), i ≤ n → n - i = d → xs.length = i → ∃ ys : List Int, ys.length = n ∧ Evt (fun k => place_All.l0 k xs (n : Int) i) ys := by
  induction d with
  | zero =>
    intro i xs hi hd hx
    refine ⟨xs, by omega, Evt.of fun k => ?_⟩
    simp only [place_All.l0]
    rw [if_neg (by omega)]
  | succ d ih =>
    intro i xs hi hd hx
    obtain ⟨ys, h1, h2⟩ := ih (i + 1) (xs ++ [(i : Int)]) (by omega) (by omega) (by simp; omega)
    refine ⟨ys, h1, Evt.step (fun k => ?_) h2⟩
    simp only [place_All.l0]
    rw [if_pos (by omega), if_pos (by omega), w64 (by omega) (by omega)]
    rfl
theorem cL_in (ds : List S44) : ∀ (os xs : List Int) (w : Int) (q : List Int × Int), cL ds os xs w = some q → ∀ f ∈ os, 0 ≤ f ∧ f < (ds.length : Int)
  | [], xs, w, q, h, f, hf => by cases hf
  | g :: gs, xs, w, q, h, f, hf => by
    unfold cL at h
    split at h
    · cases h
    · rename_i hn
      rcases List.mem_cons.1 hf with rfl | hf
      · omega
      · exact cL_in ds gs _ _ _ h f hf
theorem planned_ord {ds : List S44} {dd : List S55} {en : Int} {os : List Int} (h : (planS ds dd en os).2.2.2.2.2 = 0) (i : Nat) (hi : i < os.length) : 0 ≤ rd os i ∧ rd os i < (ds.length : Int) := by
  unfold planS at h
  generalize hc : cL ds os (List.replicate ds.length (-1)) 0 = c at h
  rcases c with _ | q
  · simp [resR] at h
  · refine cL_in ds os _ _ _ hc _ ?_
    unfold rd
    rw [Int.toNat_natCast]
    exact rd_in hi
end Go.Proofs.Ytdnfofhfllnhiaa.Patch

/- The layer 'patch' in plain Lean: the document's answer is the same. Own work; a template. -/
namespace Go.Proofs.Ytdnfofhfllnhiaa.Patch
open Go.RowKit Go.Proofs.Ytdnfofhfllnhiaa.Q Go.Proofs.YtdnfofhfllnhiaaW.PrintWords Go.Proofs.YtdnfofhfllnhiaaW.PrintLast Go.Proofs.YtdnfofhfllnhiaaW.PrintMore Go.Proofs.Ytdnfofhfllnhiaa.Place Go.Proofs.Ytdnfofhfllnhiaa.Code
set_option linter.unusedVariables false
set_option linter.unusedSimpArgs false
/-! ## data -/
theorem set4 (L : List Int) (o : Nat) (b0 b1 b2 b3 : Int) (h : o + 4 ≤ L.length) : (((L.set o b0).set (o + 1) b1).set (o + 2) b2).set (o + 3) b3 = splice L o [b0, b1, b2, b3] := by
  apply List.ext_getElem?
  intro j
  unfold splice
  by_cases h1 : j < o
  · rw [List.getElem?_set_ne (by omega), List.getElem?_set_ne (by omega), List.getElem?_set_ne (by omega), List.getElem?_set_ne (by omega), List.getElem?_append_left (by rw [List.length_take]; omega), List.getElem?_take_of_lt h1]
  by_cases h2 : j < o + 4
  · obtain ⟨e, rfl⟩ : ∃ e, j = o + e := ⟨j - o, by omega⟩
    rw [List.getElem?_append_right (by rw [List.length_take]; omega), List.length_take, Nat.min_eq_left (by omega), Nat.add_sub_cancel_left]
    have : e = 0 ∨ e = 1 ∨ e = 2 ∨ e = 3 := by omega
    rcases this with rfl | rfl | rfl | rfl
    · rw [List.getElem?_set_ne (by omega), List.getElem?_set_ne (by omega), List.getElem?_set_ne (by omega), Nat.add_zero, List.getElem?_set_self (by omega)]
      rfl
    · rw [List.getElem?_set_ne (by omega), List.getElem?_set_ne (by omega), List.getElem?_set_self (by rw [List.length_set]; omega)]
      rfl
    · rw [List.getElem?_set_ne (by omega), List.getElem?_set_self (by rw [List.length_set, List.length_set]; omega)]
      rfl
    · rw [List.getElem?_set_self (by rw [List.length_set, List.length_set, List.length_set]; omega)]
      rfl
  · rw [List.getElem?_set_ne (by omega), List.getElem?_set_ne (by omega), List.getElem?_set_ne (by omega), List.getElem?_set_ne (by omega), List.getElem?_append_right (by rw [List.length_take]; omega), List.getElem?_append_right (by rw [List.length_take]; simp; omega), List.getElem?_drop]
    congr 1
    rw [List.length_take]
    simp
    omega
end Go.Proofs.Ytdnfofhfllnhiaa.Patch

/- PatchBytes, in plain numbers. Own work; a template. -/
namespace Go.Proofs.Ytdnfofhfllnhiaa.Pure
open Go.RowKit Go.Proofs.Ytdnfofhfllnhiaa.Q Go.Proofs.YtdnfofhfllnhiaaW.PrintWords Go.Proofs.YtdnfofhfllnhiaaW.PrintLast Go.Proofs.YtdnfofhfllnhiaaW.PrintMore Go.Proofs.Ytdnfofhfllnhiaa.Place Go.Proofs.Ytdnfofhfllnhiaa.Code Go.Proofs.Ytdnfofhfllnhiaa.Patch
set_option linter.unusedVariables false
theorem rd_splice {out : List Int} {o : Nat} {b0 b1 b2 b3 : Int} (h : o + 4 ≤ out.length) (q : Int) (h0 : 0 ≤ q) : rd (splice out o [b0, b1, b2, b3]) q = if q = ((o + 3 : Nat) : Int) then b3 else if q = ((o + 2 : Nat) : Int) then b2 else if q = ((o + 1 : Nat) : Int) then b1 else if q = (o : Int) then b0 else rd out q := by
  rw [← set4 out o b0 b1 b2 b3 h]
  have s0 := rd_set (xs := out) (f := (o : Int)) (j := q) (v := b0) (by omega) h0 (by omega)
  have s1 := rd_set (xs := out.set o b0) (f := ((o + 1 : Nat) : Int)) (j := q) (v := b1) (by omega) h0 (by rw [List.length_set]; omega)
  have s2 := rd_set (xs := (out.set o b0).set (o + 1) b1) (f := ((o + 2 : Nat) : Int)) (j := q) (v := b2) (by omega) h0 (by rw [List.length_set, List.length_set]; omega)
  have s3 := rd_set (xs := ((out.set o b0).set (o + 1) b1).set (o + 2) b2) (f := ((o + 3 : Nat) : Int)) (j := q) (v := b3) (by omega) h0 (by rw [List.length_set, List.length_set, List.length_set]; omega)
  rw [Int.toNat_natCast] at s0 s1 s2 s3
  rw [s3, s2, s1, s0]
theorem dok_ge {m s : Int} : ∀ (l : List S46) (p : Int), DOk m s p l → ∀ r ∈ l, p + 4 ≤ r.f0 ∧ 0 ≤ r.f0 ∧ r.f0 + 4 ≤ s
  | [], p, h, r, hr => by cases hr
  | a :: l, p, h, r, hr => by
    obtain ⟨h1, h2⟩ := h
    rcases List.mem_cons.1 hr with rfl | hr
    · exact ⟨h1.1, h1.2.1, h1.2.2.1⟩
    · have := dok_ge l a.f0 h2 r hr
      omega
/-- Bytes that no relocation has stay. -/
theorem dataT_else {m s : Int} (ys : List Int) (q : Int) (hq : 0 ≤ q) : ∀ (l : List S46) (out : List Int) (p : Int), DOk m s p l → (out.length : Int) = s → (dataT ys l out).2 = 0 → (∀ r ∈ l, ¬ (r.f0 ≤ q ∧ q < r.f0 + 4)) → rd (dataT ys l out).1 q = rd out q
  | [], out, p, h, hs, he, hn => rfl
  | r :: l, out, p, h, hs, he, hn => by
    obtain ⟨h1, h2⟩ := h
    have hc := hn r (List.mem_cons_self ..)
    unfold dataT at he ⊢
    split at he
    · rename_i g
      rw [if_pos g]
      have hl := length_splice out r.f0.toNat (bytes4 (65536 + rd ys r.f2 + r.f3)) (by simp [bytes4]; omega)
      rw [dataT_else ys q hq l _ r.f0 h2 (by rw [hl]; exact hs) he (fun r' hr' => hn r' (List.mem_cons_of_mem _ hr'))]
      unfold bytes4
      rw [rd_splice (by omega) q hq, if_neg (by omega), if_neg (by omega), if_neg (by omega), if_neg (by omega)]
    · simp at he
/-- Bytes that one has are the address of what it names. -/
theorem dataT_at {m s : Int} (ys : List Int) : ∀ (l : List S46) (out : List Int) (p : Int), DOk m s p l → (out.length : Int) = s → (dataT ys l out).2 = 0 → (dataT ys l out).1.length = out.length ∧ ∀ r ∈ l, 0 ≤ 65536 + rd ys r.f2 + r.f3 ∧
    rd (dataT ys l out).1 r.f0 = (65536 + rd ys r.f2 + r.f3) % 256 ∧ rd (dataT ys l out).1 (r.f0 + 1) = (65536 + rd ys r.f2 + r.f3) / 256 % 256 ∧ rd (dataT ys l out).1 (r.f0 + 2) = (65536 + rd ys r.f2 + r.f3) / 65536 % 256 ∧ rd (dataT ys l out).1 (r.f0 + 3) = (65536 + rd ys r.f2 + r.f3) / 16777216 % 256
  | [], out, p, h, hs, he => ⟨rfl, fun r hr => by cases hr⟩
  | a :: l, out, p, h, hs, he => by
    obtain ⟨h1, h2⟩ := h
    unfold dataT at he ⊢
    split at he
    · rename_i g
      rw [if_pos g]
      have hl := length_splice out a.f0.toNat (bytes4 (65536 + rd ys a.f2 + a.f3)) (by simp [bytes4]; omega)
      obtain ⟨i1, i2⟩ := dataT_at ys l _ a.f0 h2 (by rw [hl]; exact hs) he
      refine ⟨i1.trans hl, fun r hr => ?_⟩
      rcases List.mem_cons.1 hr with rfl | hr
      · have hx : ∀ q : Int, 0 ≤ q → r.f0 ≤ q → q < r.f0 + 4 → rd (dataT ys l (splice out r.f0.toNat (bytes4 (65536 + rd ys r.f2 + r.f3)))).1 q = rd (splice out r.f0.toNat (bytes4 (65536 + rd ys r.f2 + r.f3))) q := fun q q0 q1 q2 =>
          dataT_else ys q q0 l _ r.f0 h2 (by rw [hl]; exact hs) he (fun r' hr' => by have := dok_ge l r.f0 h2 r' hr'; omega)
        refine ⟨g, ?_, ?_, ?_, ?_⟩
        · rw [hx _ (by omega) (by omega) (by omega)]
          unfold bytes4
          rw [rd_splice (by omega) _ (by omega), if_neg (by omega), if_neg (by omega), if_neg (by omega), if_pos (by omega)]
        · rw [hx _ (by omega) (by omega) (by omega)]
          unfold bytes4
          rw [rd_splice (by omega) _ (by omega), if_neg (by omega), if_neg (by omega), if_pos (by omega)]
        · rw [hx _ (by omega) (by omega) (by omega)]
          unfold bytes4
          rw [rd_splice (by omega) _ (by omega), if_neg (by omega), if_pos (by omega)]
        · rw [hx _ (by omega) (by omega) (by omega)]
          unfold bytes4
          rw [rd_splice (by omega) _ (by omega), if_pos (by omega)]
      · exact i2 r hr
    · simp at he
theorem rd_drop (L : List Int) (o e : Nat) : rd (L.drop o) (e : Int) = rd L ((o + e : Nat) : Int) := by
  unfold rd
  rw [Int.toNat_natCast, Int.toNat_natCast, List.getD_eq_getElem?_getD, List.getElem?_drop, List.getD_eq_getElem?_getD]
theorem ref_get4 (L : List Int) (h : 4 ≤ L.length) (b0 b1 b2 b3 : Int) (h0 : 0 ≤ b0 ∧ b0 ≤ 255) (h1 : 0 ≤ b1 ∧ b1 ≤ 255) (h2 : 0 ≤ b2 ∧ b2 ≤ 255) (h3 : 0 ≤ b3 ∧ b3 ≤ 255) (e0 : rd L 0 = b0) (e1 : rd L 1 = b1) (e2 : rd L 2 = b2) (e3 : rd L 3 = b3) :
    Evt (fun k => spliceref01_Get.f k L) (((b3 * 256 + b2) * 256 + b1) * 256 + b0) := by
  have one : ∀ (x : Int) (j : Nat) (v k : Int) (n : Nat), j < 4 → rd L j = v → 0 ≤ v ∧ v ≤ 255 → 0 ≤ x ∧ x ≤ 16777215 → spliceref01_Get.l0 (n + 1) L x (j : Int) = spliceref01_Get.l0 n L (256 * x + v) ((j : Int) - 1) := by
    intro x j v k n hj hv hb hx
    simp only [spliceref01_Get.l0]
    rw [if_pos (by omega), if_pos (by omega), if_pos (by omega), hv, w64 (x := 256 * x) (by omega) (by omega), w64 (x := v) (by omega) (by omega), w64 (x := 256 * x + v) (by omega) (by omega), w64 (by omega) (by omega)]
  show Evt (fun k => spliceref01_Get.l0 k L 0 3) _
  refine Evt.step (fun k => one 0 3 b3 0 k (by omega) e3 h3 (by omega)) ?_
  refine Evt.step (fun k => one _ 2 b2 0 k (by omega) e2 h2 (by omega)) ?_
  refine Evt.step (fun k => one _ 1 b1 0 k (by omega) e1 h1 (by omega)) ?_
  refine Evt.step (fun k => one _ 0 b0 0 k (by omega) e0 h0 (by omega)) ?_
  refine Evt.of fun k => ?_
  simp only [spliceref01_Get.l0]
  rw [if_neg (by omega), Int.emod_eq_of_lt (by omega) (by omega)]
  congr 1
  omega
theorem rdb_set {t : List Bool} {o : Nat} (h : o < t.length) (j : Int) : rdOf false (t.set o true) j = if j.toNat = o then true else rdOf false t j := by
  unfold rdOf
  rw [List.getD_eq_getElem?_getD, List.getElem?_set, List.getD_eq_getElem?_getD]
  by_cases e : j.toNat = o
  · rw [if_pos e, if_pos e.symm, if_pos h]
    rfl
  · rw [if_neg e, if_neg (fun h => e h.symm)]
/-- All bytes of the first relocations are marked. -/
def Marked (l : List S46) (n : Nat) (t : List Bool) : Prop := ∀ i : Nat, i < n → ∀ q : Int, 0 ≤ q → (rd_T46 l i).f0 ≤ q → q < (rd_T46 l i).f0 + 4 → rdOf false t q = true
section
variable {ds : List S44} {dd : List S55} {xs ys : List Int} {en a2 a3 a4 : Int}
theorem pb_l3 (q : Nat) (hq : q < dd.length) (hl : dd.length ≤ 300) (b : List Int) (hb : b.length ≤ 4096) (hbl : (b.length : Int) = (rd_T55 dd q).f2) (hf3 : ((rd_T55 dd q).f3.length : Int) ≤ (rd_T55 dd q).f2) (t : List Bool) (ht : t.length = b.length)
    (hstay : ∀ p : Int, 0 ≤ p → rdOf false t p = false → rd b p = rd (raw (rd_T55 dd q)) p) (H : Evt (fun k => splicelaw13_PatchBytes.l0 k ((q + 1 : Nat) : Int) ds dd en xs ys a2 a3 a4) true) (d : Nat) : ∀ (j : Nat), j ≤ b.length → b.length - j = d →
    Evt (fun k => splicelaw13_PatchBytes.l3 k q b t j ds dd en xs ys a2 a3 a4) true := by
  induction d with
  | zero =>
    intro j hj hd
    refine Evt.step (fun k => ?_) H
    simp only [splicelaw13_PatchBytes.l3]
    rw [if_neg (by omega), w64 (by omega) (by omega)]
    rfl
  | succ d ih =>
    intro j hj hd
    have hn := ih (j + 1) (by omega) (by omega)
    have hs := hstay j (by omega)
    have hrw : rd (raw (rd_T55 dd q)) (j : Int) = if (j : Int) < ((rd_T55 dd q).f3.length : Int) then rd (rd_T55 dd q).f3 j else 0 := by
      unfold raw rd
      rw [Int.toNat_natCast, List.getD_eq_getElem?_getD, List.getD_eq_getElem?_getD]
      by_cases g : (j : Int) < ((rd_T55 dd q).f3.length : Int)
      · rw [if_pos g, List.getElem?_append_left (by omega)]
      · rw [if_neg g, List.getElem?_append_right (by omega), List.getElem?_replicate]
        split <;> rfl
    refine Evt.step (fun k => ?_) hn
    simp only [splicelaw13_PatchBytes.l3]
    rw [if_pos (by omega), if_pos (by omega), if_pos (by omega)]
    have w1 : wrap64 ((j : Int) + 1) = ((j + 1 : Nat) : Int) := by rw [w64 (by omega) (by omega)]; rfl
    by_cases g : (j : Int) < ((rd_T55 dd q).f3.length : Int)
    · rw [if_pos g, if_pos (Int.natCast_nonneg j), if_pos (by rw [ht]; exact Int.ofNat_lt.2 (by clear w1; omega)), w1]
      rw [if_pos g] at hrw
      by_cases m : rdOf false t (j : Int) = true
      · exact if_pos m
      · rw [if_neg m]
        exact if_pos ((hs (by simpa using m)).trans hrw)
    · rw [if_neg g, if_pos (Int.natCast_nonneg j), if_pos (by rw [ht]; exact Int.ofNat_lt.2 (by clear w1; omega)), w1]
      rw [if_neg g] at hrw
      by_cases m : rdOf false t (j : Int) = true
      · exact if_pos m
      · rw [if_neg m]
        exact if_pos ((hs (by simpa using m)).trans hrw)
theorem pb_l2 (q : Nat) (b : List Int) (i : Nat) (r0 r1 r2 r3 : Int) (o : Nat) (ho : r0 = o) (ho2 : o ≤ 4096) (t : List Bool) (hi : i ≤ 300) (ht : o + 4 ≤ t.length)
    (H : ∀ t' : List Bool, t'.length = t.length → (∀ p : Int, 0 ≤ p → rdOf false t p = true → rdOf false t' p = true) → (∀ p : Int, r0 ≤ p → p < r0 + 4 → rdOf false t' p = true) → Evt (fun k => splicelaw13_PatchBytes.l1 k q b t' ((i + 1 : Nat) : Int) ds dd en xs ys a2 a3 a4) true) :
    Evt (fun k => splicelaw13_PatchBytes.l2 k q b t i 0 ds dd en xs ys a2 a3 a4 r0 r1 r2 r3) true := by
  subst ho
  have one : ∀ (z : List Bool) (j : Nat) (k : Nat), j < 4 → z.length = t.length → splicelaw13_PatchBytes.l2 (k + 1) q b z i (j : Int) ds dd en xs ys a2 a3 a4 o r1 r2 r3 = splicelaw13_PatchBytes.l2 k q b (z.set (o + j) true) i ((j + 1 : Nat) : Int) ds dd en xs ys a2 a3 a4 o r1 r2 r3 := by
    intro z j k hj hz
    have w1 : wrap64 ((o : Int) + (j : Int)) = ((o + j : Nat) : Int) := by rw [w64 (by omega) (by omega)]; rfl
    have w2 : wrap64 ((j : Int) + 1) = ((j + 1 : Nat) : Int) := by rw [w64 (by omega) (by omega)]; rfl
    simp only [splicelaw13_PatchBytes.l2]
    rw [if_pos (by clear w1 w2; omega), w1, w2, if_pos (Int.natCast_nonneg _), if_pos (by clear w1 w2; omega), Int.toNat_natCast]
  have h4 := H ((((t.set (o + 0) true).set (o + 1) true).set (o + 2) true).set (o + 3) true) (by rw [List.length_set, List.length_set, List.length_set, List.length_set]) (fun p p0 hp => by
    rw [rdb_set (by rw [List.length_set, List.length_set, List.length_set]; omega), rdb_set (by rw [List.length_set, List.length_set]; omega), rdb_set (by rw [List.length_set]; omega), rdb_set (by omega), hp]
    simp) (fun p p0 p1 => by
    rw [rdb_set (by rw [List.length_set, List.length_set, List.length_set]; omega), rdb_set (by rw [List.length_set, List.length_set]; omega), rdb_set (by rw [List.length_set]; omega), rdb_set (by omega)]
    by_cases e3 : p.toNat = o + 3
    · rw [if_pos e3]
    rw [if_neg e3]
    by_cases e2 : p.toNat = o + 2
    · rw [if_pos e2]
    rw [if_neg e2]
    by_cases e1 : p.toNat = o + 1
    · rw [if_pos e1]
    rw [if_neg e1, if_pos (by omega)])
  refine Evt.step (fun k => one t 0 k (by omega) rfl) ?_
  refine Evt.step (fun k => one _ 1 k (by omega) (by rw [List.length_set])) ?_
  refine Evt.step (fun k => one _ 2 k (by omega) (by rw [List.length_set, List.length_set])) ?_
  refine Evt.step (fun k => one _ 3 k (by omega) (by rw [List.length_set, List.length_set, List.length_set])) ?_
  refine Evt.step (fun k => ?_) h4
  simp only [splicelaw13_PatchBytes.l2]
  rw [if_neg (by decide), w64 (by omega) (by omega)]
  rfl
theorem pb_l1 (hy : ∀ j, 0 ≤ rd ys j ∧ rd ys j ≤ 65536) (q : Nat) (hq : q < dd.length) (hl : dd.length ≤ 300) (b : List Int) (hb : b.length ≤ 4096) (hn : (rd_T55 dd q).f4.length ≤ 300)
    (hrel : ∀ r ∈ (rd_T55 dd q).f4, (0 ≤ r.f0 ∧ r.f0 + 4 ≤ (b.length : Int) ∧ -1048576 ≤ r.f3 ∧ r.f3 ≤ 1048576 ∧ 0 ≤ r.f2 ∧ r.f2 < (ys.length : Int)) ∧ 0 ≤ 65536 + rd ys r.f2 + r.f3 ∧
      rd b r.f0 = (65536 + rd ys r.f2 + r.f3) % 256 ∧ rd b (r.f0 + 1) = (65536 + rd ys r.f2 + r.f3) / 256 % 256 ∧ rd b (r.f0 + 2) = (65536 + rd ys r.f2 + r.f3) / 65536 % 256 ∧ rd b (r.f0 + 3) = (65536 + rd ys r.f2 + r.f3) / 16777216 % 256)
    (H : ∀ t : List Bool, t.length = b.length → Marked (rd_T55 dd q).f4 (rd_T55 dd q).f4.length t → Evt (fun k => splicelaw13_PatchBytes.l3 k q b t 0 ds dd en xs ys a2 a3 a4) true) (d : Nat) : ∀ (i : Nat) (t : List Bool), i ≤ (rd_T55 dd q).f4.length → (rd_T55 dd q).f4.length - i = d → t.length = b.length → Marked (rd_T55 dd q).f4 i t →
    Evt (fun k => splicelaw13_PatchBytes.l1 k q b t i ds dd en xs ys a2 a3 a4) true := by
  induction d with
  | zero =>
    intro i t hi hd ht hm
    obtain rfl : i = (rd_T55 dd q).f4.length := by omega
    refine Evt.step (fun k => ?_) (H t ht hm)
    simp only [splicelaw13_PatchBytes.l1]
    rw [if_pos (by omega), if_pos (by omega), if_neg (by omega)]
  | succ d ih =>
    intro i t hi hd ht hm
    have hlt : i < (rd_T55 dd q).f4.length := by omega
    have hii : (i : Int) < ((rd_T55 dd q).f4.length : Int) := by omega
    have hmem : rd_T46 (rd_T55 dd q).f4 (i : Int) ∈ (rd_T55 dd q).f4 := by unfold rd_T46; rw [Int.toNat_natCast]; exact rd_in hlt
    obtain ⟨⟨r1, r2, r3, r4, r5, r6⟩, g, e0, e1, e2, e3⟩ := hrel _ hmem
    have hnext := fun (t' : List Bool) (h1 : t'.length = b.length) (h2 : Marked (rd_T55 dd q).f4 (i + 1) t') => ih (i + 1) t' (by omega) (by omega) h1 h2
    have hmk : ∀ t' : List Bool, t'.length = t.length → (∀ p : Int, 0 ≤ p → rdOf false t p = true → rdOf false t' p = true) → (∀ p : Int, (rd_T46 (rd_T55 dd q).f4 (i : Int)).f0 ≤ p → p < (rd_T46 (rd_T55 dd q).f4 (i : Int)).f0 + 4 → rdOf false t' p = true) → Marked (rd_T55 dd q).f4 (i + 1) t' := by
      intro t' h1 h2 h3 j hj p p0 p1 p2
      by_cases e : j = i
      · subst e
        exact h3 p p1 p2
      · exact h2 p p0 (hm j (by omega) p p0 p1 p2)
    generalize hrr : rd_T46 (rd_T55 dd q).f4 (i : Int) = r at *
    have hyt := hy r.f2
    obtain ⟨o, ho⟩ : ∃ o : Nat, r.f0 = o := ⟨r.f0.toNat, by omega⟩
    have hgt : Evt (fun k => spliceref01_Get.f k (b.drop o)) (65536 + rd ys r.f2 + r.f3) := by
      rw [ho] at e0 e1 e2 e3
      have q0 := rd_drop b o 0
      have q1 := rd_drop b o 1
      have q2 := rd_drop b o 2
      have q3 := rd_drop b o 3
      generalize hv : 65536 + rd ys r.f2 + r.f3 = v at *
      have := ref_get4 (b.drop o) (by rw [List.length_drop]; omega) (v % 256) (v / 256 % 256) (v / 65536 % 256) (v / 16777216 % 256) (by omega) (by omega) (by omega) (by omega) (q0.trans e0) (q1.trans e1) (q2.trans e2) (q3.trans e3)
      have ev : ((v / 16777216 % 256 * 256 + v / 65536 % 256) * 256 + v / 256 % 256) * 256 + v % 256 = v := by omega
      rw [ev] at this
      exact this
    have hval : (65536 + rd ys r.f2) % 4294967296 + r.f3 % 4294967296 ≥ 0 := by omega
    have hva : ((65536 + rd ys r.f2) % 4294967296 + r.f3 % 4294967296) % 4294967296 = 65536 + rd ys r.f2 + r.f3 := by omega
    have hA : place_Address.f (rd ys r.f2) = some ((65536 + rd ys r.f2) % 4294967296) := by
      unfold place_Address.f
      rw [w64 (by omega) (by omega)]
    have ho' : r.f0.toNat = o := by omega
    have c1 : 0 ≤ (q : Int) := by omega
    have c2 : (q : Int) < (dd.length : Int) := by omega
    have c3 : 0 ≤ (i : Int) := by omega
    have c4 : r.f0 ≤ (b.length : Int) := by omega
    have c5 : o + 4 ≤ t.length := by omega
    have c6 : o ≤ 4096 := by omega
    have c7 : i ≤ 300 := by omega
    have h2 := pb_l2 (ds := ds) (dd := dd) (xs := xs) (ys := ys) (en := en) (a2 := a2) (a3 := a3) (a4 := a4) q b i r.f0 r.f1 r.f2 r.f3 o ho c6 t c7 c5 (fun t' g1 g2 g3 => hnext t' (g1.trans ht) (hmk t' g1 g2 g3))
    refine Evt.step (h := fun k => (spliceref01_Get.f k (b.drop o)).bind fun v => if v = 65536 + rd ys r.f2 + r.f3 then splicelaw13_PatchBytes.l2 k q b t i 0 ds dd en xs ys a2 a3 a4 r.f0 r.f1 r.f2 r.f3 else none) (fun k => ?_) ?_
    · simp only [splicelaw13_PatchBytes.l1]
      rw [if_pos c1, if_pos c2, if_pos hii, if_pos c3, hrr, if_pos r1, if_pos c4, ho']
      refine congrArg (Option.bind _) (funext fun v => ?_)
      rw [if_pos r5, if_pos r6, hA, Option.bind_some, hva]
    · refine Evt.bind hgt ?_
      exact Evt.congr (fun k => if_pos rfl) h2
theorem pb_l0 (hg : Patch.Good ds dd) (hp : Planned ds dd xs ys) (d : Nat) : ∀ (i : Nat), i ≤ dd.length → dd.length - i = d →
    Evt (fun k => splicelaw13_PatchBytes.l0 k i ds dd en xs ys a2 a3 a4) true := by
  induction d with
  | zero =>
    intro i hi hd
    refine Evt.of fun k => ?_
    simp only [splicelaw13_PatchBytes.l0]
    rw [if_neg (by omega)]
  | succ d ih =>
    intro i hi hd
    have hlt : i < dd.length := by omega
    obtain ⟨⟨h1, h2, h3, h4⟩, h5, h6⟩ := hg.fit.dats i hlt
    have hdel := hg.dels i hlt
    have hr := raw_len h5
    have hend := hg.fit.lend
    have hly := hp.ly
    have hn := ih (i + 1) (by omega) (by omega)
    have c1 : (i : Int) < (dd.length : Int) := by omega
    by_cases he : (dataT ys (rd_T55 dd i).f4 (raw (rd_T55 dd i))).2 = 0
    · obtain ⟨q1, q2⟩ := dataT_at ys _ _ _ hdel hr he
      have q3 := fun (p : Int) (p0 : 0 ≤ p) => dataT_else ys p p0 _ _ _ hdel hr he
      generalize hb : (dataT ys (rd_T55 dd i).f4 (raw (rd_T55 dd i))).1 = b at *
      have hbl : (b.length : Int) = (rd_T55 dd i).f2 := by rw [q1]; exact hr
      have hb4 : b.length ≤ 4096 := by omega
      have hall : ∀ (l : List S46) (p : Int), DOk dd.length (rd_T55 dd i).f2 p l → ∀ r ∈ l, 0 ≤ r.f0 ∧ r.f0 + 4 ≤ (rd_T55 dd i).f2 ∧ -1048576 ≤ r.f3 ∧ r.f3 ≤ 1048576 ∧ 0 ≤ r.f2 ∧ r.f2 < (dd.length : Int) := by
        intro l
        induction l with
        | nil => intro p h r hr; cases hr
        | cons a l ihl =>
          intro p h r hr
          rcases List.mem_cons.1 hr with rfl | hr
          · exact h.1.2
          · exact ihl a.f0 h.2 r hr
      have H1 := pb_l1 (ds := ds) (xs := xs) (en := en) (a2 := a2) (a3 := a3) (a4 := a4) hp.by' i hlt hend b hb4 (by omega) (fun r hr => ⟨by have := hall _ _ hdel r hr; omega, q2 r hr⟩)
        (fun t ht hm => pb_l3 i hlt hend b hb4 hbl h5 t ht (fun p p0 hf => by
          refine q3 p p0 fun r hr hc => ?_
          obtain ⟨j, hj, e⟩ := List.mem_iff_getElem.1 hr
          have hrj : rd_T46 (rd_T55 dd i).f4 (j : Int) = r := by
            unfold rd_T46
            rw [Int.toNat_natCast, List.getD_eq_getElem?_getD, List.getElem?_eq_getElem hj, e]
            rfl
          have := hm j hj p p0 (by rw [hrj]; exact hc.1) (by rw [hrj]; exact hc.2)
          rw [this] at hf
          cases hf) hn b.length 0 (by omega) (by omega)) (rd_T55 dd i).f4.length 0 (List.replicate b.length false) (by omega) (by omega) (by simp) (fun j hj => by omega)
      refine Evt.step (fun k => ?_) H1
      simp only [splicelaw13_PatchBytes.l0]
      rw [if_pos c1, data_eq hg hp en a2 a3 a4 i hlt, Option.bind_some, if_pos he, hb, if_pos (by omega), if_pos (by omega), Int.toNat_natCast]
      rfl
    · refine Evt.step (fun k => ?_) hn
      have e1 : wrap64 ((i : Int) + 1) = ((i + 1 : Nat) : Int) := by rw [w64 (by omega) (by omega)]; rfl
      simp only [splicelaw13_PatchBytes.l0]
      rw [if_pos c1, data_eq hg hp en a2 a3 a4 i hlt, Option.bind_some, if_neg he, e1]
end
theorem pb_j0 (ds : List S44) (dd : List S55) (en : Int) (os : List Int) (ho : os.length = ds.length) (b : Bool) (h : b = false → Patch.Good ds dd) : Evt (fun k => splicelaw13_PatchBytes.j0 k os b ds dd en) true := by
  cases b with
  | true =>
    refine Evt.step (h := fun k => (splicelaw13_awake.f k).bind fun t => some t) (fun k => ?_) (Evt.bind awake13 (Evt.of fun k => rfl))
    simp only [splicelaw13_PatchBytes.j0]
    rfl
  | false =>
    have hg := h rfl
    have hf := hg.fit
    have a1 := hf.lens
    refine Evt.step (h := fun k => (place_Plan.f k ds dd en os).bind fun bt => if bt.2.2.2.2.2 = 0 then splicelaw13_PatchBytes.l0 k 0 ds dd en bt.1 bt.2.1 bt.2.2.1 bt.2.2.2.1 bt.2.2.2.2.1 else some true) (fun k => ?_) ?_
    · simp only [splicelaw13_PatchBytes.j0]
      exact if_neg (by decide)
    refine Evt.bind (plan_eq ds dd en os hf.small (by omega) hf.lens hf.lend) ?_
    by_cases he : (planS ds dd en os).2.2.2.2.2 = 0
    · refine Evt.congr (fun k => if_pos he) ?_
      exact pb_l0 hg (planned hf he) dd.length 0 (by omega) (by omega)
    · exact Evt.of fun k => if_neg he
theorem PatchBytes : splicelaw13_PatchBytes.Pure := by
  intro p hw
  have hn := hw.1.1
  refine Evt.out ?_
  obtain ⟨os, ho, hos⟩ := all_loop p.f0.length (by omega) p.f0.length 0 [] (by omega) (by omega) rfl
  refine Evt.bind (f := fun k => place_All.f k p.f0 p.f1 p.f2) hos ?_
  refine Evt.bind awake13 ?_
  refine Evt.congr (fun k => if_pos rfl) ?_
  obtain ⟨b, hb, hb'⟩ := fine_eq p.f0 p.f1 p.f2 os hw
  refine Evt.bind hb ?_
  exact pb_j0 _ _ _ _ ho _ fun h => (hb' (by simpa using h)).1
end Go.Proofs.Ytdnfofhfllnhiaa.Pure
