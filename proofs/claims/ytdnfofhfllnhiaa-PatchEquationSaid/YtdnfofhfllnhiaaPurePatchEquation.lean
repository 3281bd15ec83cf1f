/- Several texts in one. Own work; written by merge.py. -/
import Derived.Test.YtdnfofhfllnhiaaQLE
import Derived.Test.YtdnfofhfllnhiaaQD0
import Derived.Test.YtdnfofhfllnhiaaCode
section
/- What place.Plan comes to, in plain Lean. Own work; a template. -/
namespace Go.Proofs.Ytdnfofhfllnhiaa.Place
open Go.RowKit Go.Proofs.Ytdnfofhfllnhiaa.Q Go.Proofs.YtdnfofhfllnhiaaW.PrintWords Go.Proofs.YtdnfofhfllnhiaaW.PrintLast Go.Proofs.YtdnfofhfllnhiaaW.PrintMore
set_option linter.unusedVariables false
set_option linter.unusedSimpArgs false

/-- From some fuel on, the answer. -/
def Evt {α : Type} (g : Nat → Option α) (r : α) : Prop := ∃ K, ∀ k, K ≤ k → g k = some r
theorem Evt.step {α : Type} {g h : Nat → Option α} {r : α} (e : ∀ k, g (k + 1) = h k) (H : Evt h r) : Evt g r := by
  obtain ⟨K, H⟩ := H
  refine ⟨K + 1, fun k hk => ?_⟩
  obtain ⟨k, rfl⟩ : ∃ m, k = m + 1 := ⟨k - 1, by omega⟩
  rw [e]
  exact H k (by omega)
theorem Evt.of {α : Type} {g : Nat → Option α} {r : α} (e : ∀ k, g (k + 1) = some r) : Evt g r := by
  refine ⟨1, fun k hk => ?_⟩
  obtain ⟨k, rfl⟩ : ∃ m, k = m + 1 := ⟨k - 1, by omega⟩
  exact e k
theorem Evt.congr {α : Type} {g h : Nat → Option α} {r : α} (e : ∀ k, g k = h k) (H : Evt h r) : Evt g r := by
  obtain ⟨K, H⟩ := H
  exact ⟨K, fun k hk => (e k).trans (H k hk)⟩
theorem Evt.bind {α β : Type} {f : Nat → Option α} {g : Nat → α → Option β} {a : α} {r : β} (h1 : Evt f a) (h2 : Evt (fun k => g k a) r) : Evt (fun k => (f k).bind (g k)) r := by
  obtain ⟨K, h1⟩ := h1
  obtain ⟨L, h2⟩ := h2
  refine ⟨max K L, fun k hk => ?_⟩
  show (f k).bind (g k) = some r
  rw [h1 k (by omega)]
  exact h2 k (by omega)
theorem Evt.out {α : Type} {g : Nat → Option α} {r : α} (H : Evt g r) : ∃ k, g k = Option.some r := by
  obtain ⟨K, H⟩ := H
  exact ⟨K, H K (Nat.le_refl _)⟩
theorem Evt.mono {α : Type} {g : Nat → Option α} {r : α} (m : ∀ k, LeO (g k) (g (k + 1))) (K : Nat) (h : g K = some r) : Evt g r := by
  refine ⟨K, fun k hk => ?_⟩
  obtain ⟨d, rfl⟩ : ∃ d, k = K + d := ⟨k - K, by omega⟩
  clear hk
  induction d with
  | zero => exact h
  | succ d ih => exact m _ _ ih
theorem w64 {x : Int} (h1 : -9223372036854775808 ≤ x) (h2 : x ≤ 9223372036854775807) : wrap64 x = x := by
  unfold wrap64
  omega
theorem rd_set {xs : List Int} {f j v : Int} (hf : 0 ≤ f) (hj : 0 ≤ j) (h : f < xs.length) : rd (xs.set f.toNat v) j = if j = f then v else rd xs j := by
  unfold rd
  by_cases e : j = f
  · subst e
    rw [if_pos rfl, List.getD_eq_getElem?_getD, List.getElem?_set_self (by omega)]
    rfl
  · rw [if_neg e, List.getD_eq_getElem?_getD, List.getElem?_set_ne (by omega), List.getD_eq_getElem?_getD]

/-! ## the functions' places -/
/-- The order gone through: the places, the words; none: not an order. -/
def cL (ds : List S44) : List Int → List Int → Int → Option (List Int × Int)
  | [], xs, w => some (xs, w)
  | f :: fs, xs, w => if f < 0 ∨ (ds.length : Int) ≤ f ∨ 0 ≤ rd xs f then none else cL ds fs (xs.set f.toNat w) (w + ((rd_T44 ds f).f3.length : Int))
theorem cL_drop (ds : List S44) (os xs : List Int) (w : Int) (i : Nat) (h : i < os.length) : cL ds (os.drop i) xs w =
    if rd os i < 0 ∨ (ds.length : Int) ≤ rd os i ∨ 0 ≤ rd xs (rd os i) then none else cL ds (os.drop (i + 1)) (xs.set (rd os i).toNat w) (w + ((rd_T44 ds (rd os i)).f3.length : Int)) := by
  rw [List.drop_eq_getElem_cons h]
  have : rd os i = os[i] := by unfold rd; simp [List.getD_eq_getElem?_getD, h]
  rw [this]
  rfl
def okC (en : Int) (xs : List Int) : Prop := 0 ≤ en ∧ en < xs.length ∧ 0 ≤ rd xs en
instance (en : Int) (xs : List Int) : Decidable (okC en xs) := by unfold okC; infer_instance
def resC (en : Int) : Option (List Int × Int) → List Int × Int × Bool
  | none => ([], 0, false)
  | some (xs, w) => (xs, w, decide (okC en xs))
def Small (ds : List S44) : Prop := ∀ j : Int, ((rd_T44 ds j).f3.length : Int) ≤ 70000
theorem codes_l1 (ds : List S44) (dd : List S55) (en : Int) (os : List Int) (hs : Small ds) (ho : os.length ≤ 400) (d : Nat) : ∀ (i : Nat) (xs : List Int) (w : Int), i ≤ os.length → os.length - i = d → xs.length = ds.length → 0 ≤ w → w + d * 70000 ≤ 30000000 →
    Evt (fun k => place_codes.l1 k xs w os (os.length : Int) i ds dd en) (resC en (cL ds (os.drop i) xs w)) := by
  induction d with
  | zero =>
    intro i xs w hi hd hl hw hb
    have : os.drop i = [] := List.drop_of_length_le (by omega)
    rw [this]
    refine Evt.of fun k => ?_
    simp only [place_codes.l1, cL, resC]
    rw [if_neg (by omega)]
    by_cases h1 : 0 ≤ en
    · rw [if_pos h1]
      by_cases h2 : en < (xs.length : Int)
      · rw [if_pos h2, if_pos h1]
        congr 3
        unfold okC
        simp [h1, h2]
      · rw [if_neg h2]
        congr 3
        unfold okC
        simp [h2]
    · rw [if_neg h1]
      congr 3
      unfold okC
      simp [h1]
  | succ d ih =>
    intro i xs w hi hd hl hw hb
    have hlt : i < os.length := by omega
    rw [cL_drop ds os xs w i hlt]
    generalize hf : rd os (i : Int) = f
    by_cases h1 : f < 0
    · rw [if_pos (Or.inl h1)]
      refine Evt.of fun k => ?_
      simp only [place_codes.l1]
      rw [if_pos (by omega), if_pos (by omega), if_pos (by omega), hf, if_pos h1]
      rfl
    by_cases h2 : (ds.length : Int) ≤ f
    · rw [if_pos (Or.inr (Or.inl h2))]
      refine Evt.of fun k => ?_
      simp only [place_codes.l1]
      rw [if_pos (by omega), if_pos (by omega), if_pos (by omega), hf, if_neg h1, if_pos (by omega)]
      rfl
    by_cases h3 : 0 ≤ rd xs f
    · rw [if_pos (Or.inr (Or.inr h3))]
      refine Evt.of fun k => ?_
      simp only [place_codes.l1]
      rw [if_pos (by omega), if_pos (by omega), if_pos (by omega), hf, if_neg h1, if_neg (by omega), if_pos (by omega), if_pos (by omega), if_pos h3]
      rfl
    · rw [if_neg (by omega)]
      have hc := hs f
      refine Evt.step (fun k => ?_) (ih (i + 1) (xs.set f.toNat w) (w + ((rd_T44 ds f).f3.length : Int)) (by omega) (by omega) (by rw [List.length_set]; exact hl) (by omega) (by omega))
      simp only [place_codes.l1]
      rw [if_pos (by omega), if_pos (by omega), if_pos (by omega), hf, if_neg h1, if_neg (by omega), if_pos (by omega), if_pos (by omega), if_neg h3, if_pos (by omega), w64 (by omega) (by omega), w64 (by omega) (by omega)]
      rfl
/-- The first i rows are -1. -/
def filled (xs : List Int) (i : Nat) : List Int := List.replicate i (-1) ++ xs.drop i
theorem filled_len {xs : List Int} {i : Nat} (h : i ≤ xs.length) : (filled xs i).length = xs.length := by unfold filled; simp; omega
theorem filled_succ {xs : List Int} {i : Nat} (h : i < xs.length) : (filled xs i).set i (-1) = filled xs (i + 1) := by
  unfold filled
  rw [List.drop_eq_getElem_cons h, List.set_append_right _ _ (by simp), List.length_replicate, Nat.sub_self, List.set_cons_zero, List.replicate_succ', List.append_assoc]
  rfl
theorem filled_all {xs : List Int} : filled xs xs.length = List.replicate xs.length (-1) := by unfold filled; simp
theorem codes_l0 (ds : List S44) (dd : List S55) (en : Int) (os zs : List Int) (r : List Int × Int × Bool) (hz : zs.length < 1000000) (H : Evt (fun k => place_codes.l1 k (List.replicate zs.length (-1)) 0 os (os.length : Int) 0 ds dd en) r) (d : Nat) : ∀ (i : Nat), i ≤ zs.length → zs.length - i = d →
    Evt (fun k => place_codes.l0 k os (filled zs i) (zs.length : Int) i ds dd en) r := by
  induction d with
  | zero =>
    intro i hi hd
    obtain rfl : i = zs.length := by omega
    refine Evt.step (fun k => ?_) H
    simp only [place_codes.l0]
    rw [if_neg (by omega), filled_all]
  | succ d ih =>
    intro i hi hd
    refine Evt.step (fun k => ?_) (ih (i + 1) (by omega) (by omega))
    simp only [place_codes.l0]
    rw [if_pos (by omega), if_pos (by omega), if_pos (by rw [filled_len hi]; omega), w64 (by omega) (by omega), Int.toNat_natCast, filled_succ (by omega)]
    rfl
theorem codes_eq (ds : List S44) (dd : List S55) (en : Int) (os : List Int) (hs : Small ds) (ho : os.length ≤ 400) (hd : ds.length ≤ 300) :
    Evt (fun k => place_codes.f k ds dd en os) (resC en (cL ds os (List.replicate ds.length (-1)) 0)) := by
  have h1 := codes_l1 ds dd en os hs ho os.length 0 (List.replicate ds.length (-1)) 0 (by omega) (by omega) (by simp) (by omega) (by omega)
  have h2 := codes_l0 ds dd en os (List.replicate ds.length 0) (resC en (cL ds os (List.replicate ds.length (-1)) 0)) (by simp; omega) (by simpa using h1) ds.length 0 (by omega) (by simp)
  refine Evt.congr (fun k => ?_) h2
  show place_codes.f k ds dd en os = _
  unfold place_codes.f
  rw [if_pos (by omega), if_pos (by omega), Option.bind_some, Int.toNat_natCast]
  rfl

/-! ## the data's places -/
theorem up_facts {e al : Int} (h : 0 ≤ e) (h' : e ≤ 1099511627776) (h1 : 1 ≤ al) (h2 : al ≤ 16) : e ≤ upZ e al ∧ upZ e al ≤ e + 15 ∧ upZ e al % al = 0 ∧ (e % al = 0 → upZ e al = e) ∧ (e % al ≠ 0 → e + 1 ≤ 1099511627776 → upZ (e + 1) al = upZ e al) := by
  unfold upZ
  rw [if_pos (by omega)]
  have : al = 1 ∨ al = 2 ∨ al = 3 ∨ al = 4 ∨ al = 5 ∨ al = 6 ∨ al = 7 ∨ al = 8 ∨ al = 9 ∨ al = 10 ∨ al = 11 ∨ al = 12 ∨ al = 13 ∨ al = 14 ∨ al = 15 ∨ al = 16 := by omega
  rcases this with rfl | rfl | rfl | rfl | rfl | rfl | rfl | rfl | rfl | rfl | rfl | rfl | rfl | rfl | rfl | rfl
  all_goals
    refine ⟨by omega, by omega, by omega, by omega, fun h3 h4 => ?_⟩
    rw [if_pos (by omega)]
    omega
/-- What the laws let through of the data. -/
def Fine (dd : List S55) : Prop := ∀ j : Nat, j < dd.length → 1 ≤ (rd_T55 dd j).f0 ∧ (rd_T55 dd j).f0 ≤ 16 ∧ 1 ≤ (rd_T55 dd j).f2 ∧ (rd_T55 dd j).f2 ≤ 4096
theorem layD_dr (fx : Bool) (ds : List S55) (i : Nat) (h : i < ds.length) (xs : List Int) (e : Int) : layD fx (ds.drop i) i xs e =
    if (rd_T55 ds i).f1 = fx then layD fx (ds.drop (i + 1)) (i + 1) (xs.set i (upZ e (rd_T55 ds i).f0)) (wrap64 (upZ e (rd_T55 ds i).f0 + (rd_T55 ds i).f2)) else layD fx (ds.drop (i + 1)) (i + 1) xs e := by
  rw [List.drop_eq_getElem_cons h]
  have : rd_T55 ds i = ds[i] := by unfold rd_T55; simp [List.getD_eq_getElem?_getD, h]
  rw [this]
  rfl
theorem layD_bound (fx : Bool) (dd : List S55) (hf : Fine dd) (d : Nat) : ∀ (i : Nat) (xs : List Int) (e : Int), i ≤ dd.length → dd.length - i = d → 0 ≤ e → e + d * 4111 ≤ 100000000 →
    e ≤ (layD fx (dd.drop i) i xs e).2 ∧ (layD fx (dd.drop i) i xs e).2 ≤ e + d * 4111 := by
  induction d with
  | zero =>
    intro i xs e hi hd h0 h1
    rw [List.drop_of_length_le (by omega)]
    simp only [layD]
    omega
  | succ d ih =>
    intro i xs e hi hd h0 h1
    rw [layD_dr fx dd i (by omega)]
    obtain ⟨a1, a2, a3, a4⟩ := hf i (by omega)
    split
    · obtain ⟨b1, b2, _⟩ := up_facts h0 (by omega) a1 a2
      rw [w64 (by omega) (by omega)]
      have := ih (i + 1) (xs.set i (upZ e (rd_T55 dd i).f0)) (upZ e (rd_T55 dd i).f0 + (rd_T55 dd i).f2) (by omega) (by omega) (by omega) (by omega)
      omega
    · have := ih (i + 1) xs e (by omega) (by omega) (by omega) (by omega)
      omega
abbrev R6 := List Int × List Int × Int × Int × Int × Int
/-- What both answer once the functions stand. -/
def fin (dd : List S55) (xs : List Int) (w : Int) : R6 :=
  let r := layD true dd 0 (List.replicate dd.length 0) 0
  let q := layD false dd 0 r.1 (upZ r.2 16)
  if w > 65536 then ([], [], 0, 0, 0, 8) else if q.2 > 65536 then ([], [], 0, 0, 0, 8) else (xs, q.1, w, q.2, upZ r.2 16, 0)
def resR (en : Int) (dd : List S55) : Option (List Int × Int) → R6
  | none => ([], [], 0, 0, 0, 1)
  | some (xs, w) => if okC en xs then fin dd xs w else ([], [], 0, 0, 0, 1)
/-- A place is -1 or none below nought. -/
def Pl (xs : List Int) : Prop := ∀ j : Int, 0 ≤ j → j < xs.length → rd xs j = -1 ∨ 0 ≤ rd xs j
/-- The plan, in plain Lean. -/
def planS (ds : List S44) (dd : List S55) (en : Int) (os : List Int) : R6 := resR en dd (cL ds os (List.replicate ds.length (-1)) 0)
theorem plan_eq (ds : List S44) (dd : List S55) (en : Int) (os : List Int) (hs : Small ds) (ho : os.length ≤ 400) (hd : ds.length ≤ 300) (hl : dd.length ≤ 300) :
    Evt (fun k => place_Plan.f k ds dd en os) (planS ds dd en os) := by
  refine Evt.bind (codes_eq ds dd en os hs ho hd) ?_
  unfold planS
  generalize cL ds os (List.replicate ds.length (-1)) 0 = c
  rcases c with _ | ⟨xs, w⟩
  · refine Evt.of fun k => ?_
    simp only [resC, resR]
    rfl
  · refine Evt.of fun k => ?_
    by_cases h : okC en xs
    · have e : (resC en (some (xs, w))).2.2 = true := decide_eq_true h
      show (if (resC en (some (xs, w))).2.2 = true then _ else _) = _
      rw [if_pos e]
      simp only [resC, resR]
      rw [if_pos h]
      unfold place_datas.f fin
      rw [if_pos (by omega), Option.bind_some]
      simp only
      split
      · rfl
      · split
        · rfl
        · rfl
    · have e : ¬ (resC en (some (xs, w))).2.2 = true := by
        simp only [resC]
        simpa using h
      show (if (resC en (some (xs, w))).2.2 = true then _ else _) = _
      rw [if_neg e]
      simp only [resR]
      rw [if_neg h]
end Go.Proofs.Ytdnfofhfllnhiaa.Place
end
section
/- The layer 'patch' in plain Lean: what the laws let through, the plan's bounds, a function's words and data's bytes. Own work; a template. -/
namespace Go.Proofs.Ytdnfofhfllnhiaa.Patch
open Go.RowKit Go.Proofs.Ytdnfofhfllnhiaa.Q Go.Proofs.YtdnfofhfllnhiaaW.PrintWords Go.Proofs.YtdnfofhfllnhiaaW.PrintLast Go.Proofs.YtdnfofhfllnhiaaW.PrintMore Go.Proofs.Ytdnfofhfllnhiaa.Place Go.Proofs.Ytdnfofhfllnhiaa.Code
set_option linter.unusedVariables false
set_option linter.unusedSimpArgs false
/-! ## what May lets through -/
def FineD (dd : List S55) : Prop := ∀ j : Nat, j < dd.length → (1 ≤ (rd_T55 dd j).f0 ∧ (rd_T55 dd j).f0 ≤ 16 ∧ 1 ≤ (rd_T55 dd j).f2 ∧ (rd_T55 dd j).f2 ≤ 4096) ∧ (((rd_T55 dd j).f3).length : Int) ≤ (rd_T55 dd j).f2 ∧ (((rd_T55 dd j).f4).length : Int) ≤ 300
def FineF (ds : List S44) : Prop := ∀ j : Nat, j < ds.length → (((rd_T44 ds j).f3).length : Int) ≤ 70000 ∧ (((rd_T44 ds j).f4).length : Int) ≤ 300
structure Fit (ds : List S44) (dd : List S55) : Prop where
  lens : ds.length ≤ 300
  lend : dd.length ≤ 300
  funs : FineF ds
  dats : FineD dd
theorem Fit.small {ds : List S44} {dd : List S55} (h : Fit ds dd) : Small ds := by
  intro j
  by_cases hj : j.toNat < ds.length
  · have := (h.funs j.toNat hj).1
    unfold rd_T44 at this ⊢
    rw [Int.toNat_natCast] at this
    exact this
  · unfold rd_T44
    rw [List.getD_eq_getElem?_getD, List.getElem?_eq_none (by omega)]
    decide
theorem Fit.fine {ds : List S44} {dd : List S55} (h : Fit ds dd) : Fine dd := fun j hj => (h.dats j hj).1
theorem may_l1 (ds : List S44) (dd : List S55) (en : Int) (hl : dd.length ≤ 300) (d : Nat) : ∀ (i : Nat), i ≤ dd.length → dd.length - i = d →
    (∀ j : Nat, j < i → (1 ≤ (rd_T55 dd j).f0 ∧ (rd_T55 dd j).f0 ≤ 16 ∧ 1 ≤ (rd_T55 dd j).f2 ∧ (rd_T55 dd j).f2 ≤ 4096) ∧ (((rd_T55 dd j).f3).length : Int) ≤ (rd_T55 dd j).f2 ∧ (((rd_T55 dd j).f4).length : Int) ≤ 300) →
    ∃ b, Evt (fun k => spliceref12_May.l1 k i ds dd en) b ∧ (b = true → FineD dd) := by
  induction d with
  | zero =>
    intro i hi hd H
    refine ⟨true, Evt.of fun k => ?_, fun _ j hj => H j (by omega)⟩
    simp only [spliceref12_May.l1]
    rw [if_neg (by omega)]
  | succ d ih =>
    intro i hi hd H
    have hno : ∀ b : Bool, b = false → b = true → FineD dd := fun b h h' => by rw [h] at h'; cases h'
    have step : ∀ k, spliceref12_May.l1 (k + 1) i ds dd en = if (rd_T55 dd (i : Int)).f0 < 1 then some false else if (rd_T55 dd (i : Int)).f0 > 16 then some false else if (rd_T55 dd (i : Int)).f2 < 1 then some false else if (rd_T55 dd (i : Int)).f2 > 4096 then some false else if (((rd_T55 dd (i : Int)).f3).length : Int) > (rd_T55 dd (i : Int)).f2 then some false else if (((rd_T55 dd (i : Int)).f4).length : Int) > 300 then some false else spliceref12_May.l1 k ((i + 1 : Nat) : Int) ds dd en := by
      intro k
      simp only [spliceref12_May.l1]
      rw [if_pos (by omega), if_pos (by omega), w64 (x := (i : Int) + 1) (by omega) (by omega)]
      rfl
    by_cases h1 : (rd_T55 dd (i : Int)).f0 < 1
    · exact ⟨false, Evt.of fun k => by rw [step, if_pos h1], hno _ rfl⟩
    by_cases h2 : (rd_T55 dd (i : Int)).f0 > 16
    · exact ⟨false, Evt.of fun k => by rw [step, if_neg h1, if_pos h2], hno _ rfl⟩
    by_cases h3 : (rd_T55 dd (i : Int)).f2 < 1
    · exact ⟨false, Evt.of fun k => by rw [step, if_neg h1, if_neg h2, if_pos h3], hno _ rfl⟩
    by_cases h4 : (rd_T55 dd (i : Int)).f2 > 4096
    · exact ⟨false, Evt.of fun k => by rw [step, if_neg h1, if_neg h2, if_neg h3, if_pos h4], hno _ rfl⟩
    by_cases h5 : (((rd_T55 dd (i : Int)).f3).length : Int) > (rd_T55 dd (i : Int)).f2
    · exact ⟨false, Evt.of fun k => by rw [step, if_neg h1, if_neg h2, if_neg h3, if_neg h4, if_pos h5], hno _ rfl⟩
    by_cases h6 : (((rd_T55 dd (i : Int)).f4).length : Int) > 300
    · exact ⟨false, Evt.of fun k => by rw [step, if_neg h1, if_neg h2, if_neg h3, if_neg h4, if_neg h5, if_pos h6], hno _ rfl⟩
    obtain ⟨b, hb, hb'⟩ := ih (i + 1) (by omega) (by omega) (fun j hj => by
      by_cases e : j = i
      · subst e
        omega
      · exact H j (by omega))
    exact ⟨b, Evt.step (fun k => by rw [step, if_neg h1, if_neg h2, if_neg h3, if_neg h4, if_neg h5, if_neg h6]) hb, hb'⟩
theorem may_l0 (ds : List S44) (dd : List S55) (en : Int) (hd' : ds.length ≤ 300) (hl : dd.length ≤ 300) (d : Nat) : ∀ (i : Nat), i ≤ ds.length → ds.length - i = d →
    (∀ j : Nat, j < i → (((rd_T44 ds j).f3).length : Int) ≤ 70000 ∧ (((rd_T44 ds j).f4).length : Int) ≤ 300) →
    ∃ b, Evt (fun k => spliceref12_May.l0 k i ds dd en) b ∧ (b = true → Fit ds dd) := by
  induction d with
  | zero =>
    intro i hi hd H
    obtain ⟨b, hb, hb'⟩ := may_l1 ds dd en hl dd.length 0 (by omega) (by omega) (fun j hj => by omega)
    refine ⟨b, Evt.step (fun k => ?_) hb, fun h => ⟨hd', hl, fun j hj => H j (by omega), hb' h⟩⟩
    simp only [spliceref12_May.l0]
    rw [if_neg (by omega)]
    rfl
  | succ d ih =>
    intro i hi hd H
    have step : ∀ k, spliceref12_May.l0 (k + 1) i ds dd en = if (((rd_T44 ds (i : Int)).f3).length : Int) > 70000 then some false else if (((rd_T44 ds (i : Int)).f4).length : Int) > 300 then some false else spliceref12_May.l0 k ((i + 1 : Nat) : Int) ds dd en := by
      intro k
      simp only [spliceref12_May.l0]
      rw [if_pos (by omega), if_pos (by omega), w64 (x := (i : Int) + 1) (by omega) (by omega)]
      rfl
    by_cases h1 : (((rd_T44 ds (i : Int)).f3).length : Int) > 70000
    · exact ⟨false, Evt.of fun k => by rw [step, if_pos h1], fun h => by cases h⟩
    by_cases h2 : (((rd_T44 ds (i : Int)).f4).length : Int) > 300
    · exact ⟨false, Evt.of fun k => by rw [step, if_neg h1, if_pos h2], fun h => by cases h⟩
    obtain ⟨b, hb, hb'⟩ := ih (i + 1) (by omega) (by omega) (fun j hj => by
      by_cases e : j = i
      · subst e
        omega
      · exact H j (by omega))
    exact ⟨b, Evt.step (fun k => by rw [step, if_neg h1, if_neg h2]) hb, hb'⟩
theorem may_eq (ds : List S44) (dd : List S55) (en : Int) : ∃ b, Evt (fun k => spliceref12_May.f k ds dd en) b ∧ (b = true → Fit ds dd) := by
  by_cases h1 : (ds.length : Int) > 300
  · refine ⟨false, ?_, fun h => by cases h⟩
    refine Evt.congr (fun k => if_pos h1) (Evt.of fun k => ?_)
    simp only [spliceref12_May.j0]
    rfl
  by_cases h2 : (dd.length : Int) > 300
  · refine ⟨false, ?_, fun h => by cases h⟩
    refine Evt.congr (fun k => if_neg h1) (Evt.of fun k => ?_)
    rw [decide_eq_true h2]
    simp only [spliceref12_May.j0]
    rfl
  · obtain ⟨b, hb, hb'⟩ := may_l0 ds dd en (by omega) (by omega) ds.length 0 (by omega) (by omega) (fun j hj => by omega)
    refine ⟨b, ?_, hb'⟩
    refine Evt.congr (fun k => if_neg h1) (Evt.step (fun k => ?_) hb)
    rw [decide_eq_false h2]
    simp only [spliceref12_May.j0]
    rfl
theorem awake13 : Evt (fun k => splicelaw13_awake.f k) true := Evt.mono splicelaw13_awake.mono 80 (by decide +kernel)
/-! ## what Right lets through -/
theorem rd_in {α : Type} {l : List α} {z : α} {i : Nat} (h : i < l.length) : l.getD i z ∈ l := by
  rw [List.getD_eq_getElem?_getD, List.getElem?_eq_getElem h]
  exact List.getElem_mem h
/-- A function's relocations: each behind the one ahead, its kind with its instruction. -/
def ROk (n m : Int) (c : List Int) : Int → List S46 → Prop
  | _, [] => True
  | p, r :: rs => (p < r.f0 ∧ 0 ≤ r.f0 ∧ r.f0 < (c.length : Int) ∧ -1048576 ≤ r.f3 ∧ r.f3 ≤ 1048576 ∧ 0 ≤ r.f2) ∧
      (∃ o a b cc i, gW (rd c r.f0) = some (o, a, b, cc, i) ∧ ((r.f1 = 1 ∧ (o = 19 ∨ o = 20) ∧ r.f2 < n) ∨ (r.f1 = 2 ∧ o = 9 ∧ r.f2 < m) ∨ (r.f1 = 3 ∧ o = 10 ∧ r.f2 < m))) ∧ ROk n m c r.f0 rs
theorem relC_ok {n m : Int} {f : S44} {j : Nat} (h : relC n m f j = true) :
    (0 ≤ (rd_T46 f.f4 j).f0 ∧ (rd_T46 f.f4 j).f0 < (f.f3.length : Int) ∧ (0 < j → (rd_T46 f.f4 ((j : Int) - 1)).f0 < (rd_T46 f.f4 j).f0) ∧ -1048576 ≤ (rd_T46 f.f4 j).f3 ∧ (rd_T46 f.f4 j).f3 ≤ 1048576 ∧ 0 ≤ (rd_T46 f.f4 j).f2) ∧
    (∃ o a b cc i, gW (rd f.f3 (rd_T46 f.f4 j).f0) = some (o, a, b, cc, i) ∧ (((rd_T46 f.f4 j).f1 = 1 ∧ (o = 19 ∨ o = 20) ∧ (rd_T46 f.f4 j).f2 < n) ∨ ((rd_T46 f.f4 j).f1 = 2 ∧ o = 9 ∧ (rd_T46 f.f4 j).f2 < m) ∨ ((rd_T46 f.f4 j).f1 = 3 ∧ o = 10 ∧ (rd_T46 f.f4 j).f2 < m))) := by
  unfold relC at h
  rw [Bool.and_eq_true, Bool.not_eq_true'] at h
  obtain ⟨h0, h1⟩ := h
  unfold relC0 at h0
  unfold relC1 at h1
  generalize rd_T46 f.f4 (j : Int) = r at *
  simp only at h0 h1
  split at h0
  · cases h0
  split at h0
  · cases h0
  split at h0
  · cases h0
  split at h0
  · cases h0
  split at h0
  · cases h0
  have h2 := of_decide_eq_false h0
  refine ⟨by omega, ?_⟩
  rcases hg : Code.gW (rd f.f3 r.f0) with _ | ⟨o, a, b, cc, i⟩
  · rw [hg] at h1
    simp [Code.getB] at h1
  · rw [hg] at h1
    simp [Code.getB] at h1
    refine ⟨o, a, b, cc, i, rfl, ?_⟩
    omega
theorem drop_rel {l : List S46} {j : Nat} (h : j < l.length) : l.drop j = rd_T46 l j :: l.drop (j + 1) := by
  rw [List.drop_eq_getElem_cons h]
  have : rd_T46 l j = l[j] := by unfold rd_T46; simp [List.getD_eq_getElem?_getD, h]
  rw [this]
theorem rok_of {n m : Int} {f : S44} (H : ∀ j : Nat, j < f.f4.length → relC n m f j = true) (d : Nat) : ∀ (j : Nat) (p : Int), j ≤ f.f4.length → f.f4.length - j = d → (j = 0 ∧ p = -1 ∨ 0 < j ∧ p = (rd_T46 f.f4 ((j : Int) - 1)).f0) → ROk n m f.f3 p (f.f4.drop j) := by
  induction d with
  | zero =>
    intro j p hj hd hp
    rw [List.drop_of_length_le (by omega)]
    trivial
  | succ d ih =>
    intro j p hj hd hp
    have hlt : j < f.f4.length := by omega
    rw [drop_rel hlt]
    obtain ⟨h1, h2⟩ := relC_ok (H j hlt)
    refine ⟨⟨?_, h1.1, h1.2.1, h1.2.2.2.1, h1.2.2.2.2.1, h1.2.2.2.2.2⟩, h2, ih (j + 1) _ (by omega) (by omega) (.inr ⟨by omega, ?_⟩)⟩
    · rcases hp with ⟨_, rfl⟩ | ⟨q, rfl⟩
      · omega
      · exact h1.2.2.1 q
    · have : ((j + 1 : Nat) : Int) - 1 = (j : Int) := by omega
      rw [this]
/-- Data's relocations: words, apart from one another. -/
def DOk (m : Int) (s : Int) : Int → List S46 → Prop
  | _, [] => True
  | p, r :: rs => (p + 4 ≤ r.f0 ∧ 0 ≤ r.f0 ∧ r.f0 + 4 ≤ s ∧ -1048576 ≤ r.f3 ∧ r.f3 ≤ 1048576 ∧ 0 ≤ r.f2 ∧ r.f2 < m) ∧ DOk m s r.f0 rs
theorem relD_ok {m : Int} {d : S55} {j : Nat} (hs : 1 ≤ d.f2 ∧ d.f2 ≤ 4096) (h : relD0 m d j = false) (hp : 0 < j → 0 ≤ (rd_T46 d.f4 ((j : Int) - 1)).f0 ∧ (rd_T46 d.f4 ((j : Int) - 1)).f0 ≤ 4096) :
    0 ≤ (rd_T46 d.f4 j).f0 ∧ (rd_T46 d.f4 j).f0 + 4 ≤ d.f2 ∧ (0 < j → (rd_T46 d.f4 ((j : Int) - 1)).f0 + 4 ≤ (rd_T46 d.f4 j).f0) ∧ -1048576 ≤ (rd_T46 d.f4 j).f3 ∧ (rd_T46 d.f4 j).f3 ≤ 1048576 ∧ 0 ≤ (rd_T46 d.f4 j).f2 ∧ (rd_T46 d.f4 j).f2 < m := by
  unfold relD0 at h
  generalize rd_T46 d.f4 (j : Int) = r at *
  generalize rd_T46 d.f4 ((j : Int) - 1) = q at *
  simp only at h
  split at h
  · cases h
  split at h
  · cases h
  split at h
  · cases h
  split at h
  · cases h
  split at h
  · cases h
  split at h
  · cases h
  split at h
  · cases h
  have h2 := of_decide_eq_false h
  rename_i a1 a2 a3 a4 a5 a6 a7
  rw [w64 (by omega) (by omega)] at a3
  refine ⟨by omega, by omega, fun hj => ?_, by omega, by omega, by omega, by omega⟩
  have := hp hj
  rw [w64 (by omega) (by omega)] at a4
  omega
theorem dok_of {m : Int} {d : S55} (hs : 1 ≤ d.f2 ∧ d.f2 ≤ 4096) (H : ∀ j : Nat, j < d.f4.length → relD0 m d j = false) (e : Nat) : ∀ (j : Nat) (p : Int), j ≤ d.f4.length → d.f4.length - j = e → (j = 0 ∧ p = -4 ∨ 0 < j ∧ p = (rd_T46 d.f4 ((j : Int) - 1)).f0 ∧ 0 ≤ p ∧ p ≤ 4096) → DOk m d.f2 p (d.f4.drop j) := by
  induction e with
  | zero =>
    intro j p hj hd hp
    rw [List.drop_of_length_le (by omega)]
    trivial
  | succ e ih =>
    intro j p hj hd hp
    have hlt : j < d.f4.length := by omega
    rw [drop_rel hlt]
    have h1 := relD_ok hs (H j hlt) (fun hj => by
      rcases hp with ⟨q, _⟩ | ⟨_, q, q1, q2⟩
      · omega
      · rw [← q]
        exact ⟨q1, q2⟩)
    have h3 : ((j + 1 : Nat) : Int) - 1 = (j : Int) := by omega
    refine ⟨⟨?_, h1.1, h1.2.1, h1.2.2.2.1, h1.2.2.2.2.1, h1.2.2.2.2.2⟩, ih (j + 1) _ (by omega) (by omega) (.inr ⟨by omega, by rw [h3], h1.1, by omega⟩)⟩
    rcases hp with ⟨_, rfl⟩ | ⟨q, rfl, _⟩
    · omega
    · exact h1.2.2.1 q
/-- What Right lets through. -/
structure Good (ds : List S44) (dd : List S55) : Prop where
  fit : Fit ds dd
  u32 : ∀ i : Nat, i < ds.length → ∀ x ∈ (rd_T44 ds i).f3, U32 x
  rels : ∀ i : Nat, i < ds.length → ROk ds.length dd.length (rd_T44 ds i).f3 (-1) (rd_T44 ds i).f4
  dels : ∀ i : Nat, i < dd.length → DOk dd.length (rd_T55 dd i).f2 (-4) (rd_T55 dd i).f4
theorem right_eq (ds : List S44) (dd : List S55) (en : Int) (w : W25 ⟨ds, dd, en⟩) : spliceref13_Right.f ds dd en = some (rightB ds dd) := by
  obtain ⟨⟨h1, h2⟩, ⟨h3, h4⟩, _⟩ := w
  refine if_pos ⟨by simp only at h1; omega, by simp only at h3; omega, fun f hf => ?_, fun d hd => ?_⟩
  · obtain ⟨_, _, _, ⟨a1, a2⟩, a3, _⟩ := h2 f hf
    exact ⟨by omega, by omega, fun x hx => a2 x hx⟩
  · obtain ⟨_, _, _, _, a3, _⟩ := h4 d hd
    omega
theorem good_of {ds : List S44} {dd : List S55} {en : Int} (w : W25 ⟨ds, dd, en⟩) (hf : Fit ds dd) (h : rightB ds dd = true) : Good ds dd := by
  unfold rightB at h
  rw [Bool.and_eq_true, List.all_eq_true, List.all_eq_true] at h
  refine ⟨hf, fun i hi => ?_, fun i hi => ?_, fun i hi => ?_⟩
  · have hm : rd_T44 ds i ∈ ds := by unfold rd_T44; rw [Int.toNat_natCast]; exact rd_in hi
    exact (w.1.2 _ hm).2.2.2.1.2
  · have h1 := h.1 i (List.mem_range.2 hi)
    unfold relsC at h1
    rw [List.all_eq_true] at h1
    have := rok_of (fun j hj => h1 j (List.mem_range.2 hj)) (rd_T44 ds i).f4.length 0 (-1) (by omega) (by omega) (.inl ⟨rfl, rfl⟩)
    simpa using this
  · have h1 := h.2 i (List.mem_range.2 hi)
    unfold relsD at h1
    rw [List.all_eq_true] at h1
    obtain ⟨⟨_, _, b1, b2⟩, _⟩ := hf.dats i hi
    have := dok_of ⟨b1, b2⟩ (fun j hj => by simpa using h1 j (List.mem_range.2 hj)) (rd_T55 dd i).f4.length 0 (-4) (by omega) (by omega) (.inl ⟨rfl, rfl⟩)
    simpa using this
end Go.Proofs.Ytdnfofhfllnhiaa.Patch
end
section
/- The layer 'patch' in plain Lean: the plan's bounds; what a function's words and data's bytes come to. Own work; a template. -/
namespace Go.Proofs.Ytdnfofhfllnhiaa.Patch
open Go.RowKit Go.Proofs.Ytdnfofhfllnhiaa.Q Go.Proofs.YtdnfofhfllnhiaaW.PrintWords Go.Proofs.YtdnfofhfllnhiaaW.PrintLast Go.Proofs.YtdnfofhfllnhiaaW.PrintMore Go.Proofs.Ytdnfofhfllnhiaa.Place Go.Proofs.Ytdnfofhfllnhiaa.Code
set_option linter.unusedVariables false
set_option linter.unusedSimpArgs false
/-! ## the plan's bounds -/
theorem rd_out {xs : List Int} {j : Int} (h : xs.length ≤ j.toNat) : rd xs j = 0 := by
  unfold rd
  rw [List.getD_eq_getElem?_getD, List.getElem?_eq_none h]
  rfl
theorem rd_set_or (xs : List Int) (i : Nat) (v j : Int) : rd (xs.set i v) j = v ∨ rd (xs.set i v) j = rd xs j := by
  unfold rd
  rw [List.getD_eq_getElem?_getD, List.getD_eq_getElem?_getD, List.getElem?_set]
  by_cases h : i = j.toNat
  · by_cases h2 : i < xs.length
    · left
      rw [if_pos h, if_pos h2]
      rfl
    · right
      rw [if_pos h, if_neg h2, List.getElem?_eq_none (by omega)]
  · right
    rw [if_neg h]
theorem rd_repl (n : Nat) (v j : Int) : rd (List.replicate n v) j = v ∨ rd (List.replicate n v) j = 0 := by
  unfold rd
  rw [List.getD_eq_getElem?_getD, List.getElem?_replicate]
  split
  · exact .inl rfl
  · exact .inr rfl
theorem cL_bound (ds : List S44) : ∀ (os xs : List Int) (w : Int) (ys : List Int) (v : Int), cL ds os xs w = some (ys, v) → 0 ≤ w → (∀ j, -1 ≤ rd xs j ∧ rd xs j ≤ w) → w ≤ v ∧ (∀ j, -1 ≤ rd ys j ∧ rd ys j ≤ v) ∧ ys.length = xs.length
  | [], xs, w, ys, v, h, h0, H => by
    simp only [cL, Option.some.injEq, Prod.mk.injEq] at h
    obtain ⟨rfl, rfl⟩ := h
    exact ⟨Int.le_refl _, H, rfl⟩
  | f :: fs, xs, w, ys, v, h, h0, H => by
    unfold cL at h
    split at h
    · cases h
    · have := cL_bound ds fs _ _ _ _ h (by omega) (fun j => by
        have := H j
        rcases rd_set_or xs f.toNat w j with e | e <;> omega)
      rw [List.length_set] at this
      exact ⟨by omega, this.2⟩
theorem layD_bound2 (fx : Bool) (dd : List S55) (hf : Fine dd) (d : Nat) : ∀ (i : Nat) (xs : List Int) (e : Int), i ≤ dd.length → dd.length - i = d → 0 ≤ e → e + d * 4111 ≤ 100000000 → (∀ j, 0 ≤ rd xs j ∧ rd xs j ≤ e) →
    e ≤ (layD fx (dd.drop i) i xs e).2 ∧ (layD fx (dd.drop i) i xs e).2 ≤ e + d * 4111 ∧ (∀ j, 0 ≤ rd (layD fx (dd.drop i) i xs e).1 j ∧ rd (layD fx (dd.drop i) i xs e).1 j ≤ (layD fx (dd.drop i) i xs e).2) := by
  induction d with
  | zero =>
    intro i xs e hi hd h0 h1 H
    rw [List.drop_of_length_le (by omega)]
    simp only [layD]
    exact ⟨by omega, by omega, H⟩
  | succ d ih =>
    intro i xs e hi hd h0 h1 H
    rw [layD_dr fx dd i (by omega)]
    obtain ⟨a1, a2, a3, a4⟩ := hf i (by omega)
    split
    · obtain ⟨b1, b2, _⟩ := up_facts h0 (by omega) a1 a2
      rw [w64 (by omega) (by omega)]
      have := ih (i + 1) (xs.set i (upZ e (rd_T55 dd i).f0)) (upZ e (rd_T55 dd i).f0 + (rd_T55 dd i).f2) (by omega) (by omega) (by omega) (by omega) (fun j => by
        have := H j
        rcases rd_set_or xs i (upZ e (rd_T55 dd i).f0) j with e | e <;> omega)
      exact ⟨by omega, by omega, this.2.2⟩
    · have := ih (i + 1) xs e (by omega) (by omega) (by omega) (by omega) H
      exact ⟨by omega, by omega, this.2.2⟩
/-- A plan that stands. -/
structure Planned (ds : List S44) (dd : List S55) (xs ys : List Int) : Prop where
  lx : xs.length = ds.length
  ly : ys.length = dd.length
  bx : ∀ j, -1 ≤ rd xs j ∧ rd xs j ≤ 65536
  by' : ∀ j, 0 ≤ rd ys j ∧ rd ys j ≤ 65536
theorem planned {ds : List S44} {dd : List S55} {en : Int} {os : List Int} (hf : Fit ds dd) (h : (planS ds dd en os).2.2.2.2.2 = 0) : Planned ds dd (planS ds dd en os).1 (planS ds dd en os).2.1 := by
  unfold planS at h ⊢
  generalize hc : cL ds os (List.replicate ds.length (-1)) 0 = c at h ⊢
  rcases c with _ | ⟨xs, w⟩
  · simp [resR] at h
  · obtain ⟨c1, c2, c3⟩ := cL_bound ds _ _ _ _ _ hc (by omega) (fun j => by rcases rd_repl ds.length (-1) j with e | e <;> omega)
    rw [List.length_replicate] at c3
    simp only [resR] at h ⊢
    split at h
    · rename_i hok
      rw [if_pos hok]
      unfold fin at h ⊢
      simp only at h ⊢
      have hl := hf.lend
      obtain ⟨d1, d2, d3⟩ := layD_bound2 true dd hf.fine dd.length 0 (List.replicate dd.length 0) 0 (by omega) (by omega) (by omega) (by omega) (fun j => by rcases rd_repl dd.length 0 j with e | e <;> omega)
      rw [List.drop_zero] at d1 d2 d3
      obtain ⟨u1, u2, _⟩ := up_facts (al := 16) d1 (by omega) (by omega) (by omega)
      obtain ⟨e1, e2, e3⟩ := layD_bound2 false dd hf.fine dd.length 0 (layD true dd 0 (List.replicate dd.length 0) 0).1 (upZ (layD true dd 0 (List.replicate dd.length 0) 0).2 16) (by omega) (by omega) (by omega) (by omega) (fun j => by have := d3 j; omega)
      rw [List.drop_zero] at e1 e2 e3
      have hq := (layD_len false dd 0 (layD true dd 0 (List.replicate dd.length 0) 0).1 (upZ (layD true dd 0 (List.replicate dd.length 0) 0).2 16)).trans ((layD_len true dd 0 (List.replicate dd.length 0) 0).trans List.length_replicate)
      split at h
      · simp at h
      · split at h
        · simp at h
        · rename_i g1 g2
          rw [if_neg g1, if_neg g2]
          exact ⟨c3, hq, fun j => ⟨(c2 j).1, Int.le_trans (c2 j).2 (by omega)⟩, fun j => ⟨(e3 j).1, Int.le_trans (e3 j).2 (by omega)⟩⟩
    · simp at h
/-! ## a function's words -/
/-- What an instruction's Imm becomes; none: it doesn't fit. -/
def immB (xs ys : List Int) (a : Int) (r : S46) : Option Int :=
  if r.f1 = 1 then (if 0 ≤ rd xs r.f2 ∧ -8388608 ≤ rd xs r.f2 - a - r.f0 - 1 ∧ rd xs r.f2 - a - r.f0 - 1 ≤ 8388607 then some (rd xs r.f2 - a - r.f0 - 1) else none)
  else if 0 ≤ 65536 + rd ys r.f2 + r.f3 then some (if r.f1 = 2 then (65536 + rd ys r.f2 + r.f3) / 65536 else (65536 + rd ys r.f2 + r.f3) % 65536) else none
/-- A word with another Imm. -/
def reW (w n : Int) : Int := match gW w with
  | some (o, a, b, c, _) => word o a b c n
  | none => 0
def codeB (xs ys : List Int) (a : Int) : List S46 → List Int → List Int × Int
  | [], out => (out, 0)
  | r :: rs, out => match immB xs ys a r with
    | none => ([], 7)
    | some n => codeB xs ys a rs (out.set r.f0.toNat (reW (rd out r.f0) n))
/-- The new Imm is a right one. -/
theorem imm_right {n m : Int} {xs ys : List Int} {a : Int} {r : S46} {o a' b c i v : Int} (hy : ∀ j, 0 ≤ rd ys j ∧ rd ys j ≤ 65536) (h3 : -1048576 ≤ r.f3 ∧ r.f3 ≤ 1048576) (hk : (r.f1 = 1 ∧ (o = 19 ∨ o = 20) ∧ r.f2 < n) ∨ (r.f1 = 2 ∧ o = 9 ∧ r.f2 < m) ∨ (r.f1 = 3 ∧ o = 10 ∧ r.f2 < m))
    (hr : Rt o a' b c i) (hv : immB xs ys a r = some v) : Rt o a' b c v := by
  unfold immB at hv
  have := hy r.f2
  rcases hk with ⟨e, g, _⟩ | ⟨e, rfl, _⟩ | ⟨e, rfl, _⟩
  · rw [if_pos e] at hv
    split at hv
    · rename_i q
      rw [Option.some.inj hv] at q
      rw [rt_far g] at hr ⊢
      exact ⟨hr.1, hr.2.1, hr.2.2.1, q.2⟩
    · cases hv
  · rw [if_neg (by omega)] at hv
    split at hv
    · try rw [if_pos e] at hv
      have := Option.some.inj hv
      rw [rt_9 rfl] at hr ⊢
      exact ⟨hr.1, hr.2.1, hr.2.2.1, by omega, by omega⟩
    · cases hv
  · rw [if_neg (by omega)] at hv
    split at hv
    · try rw [if_neg (by omega)] at hv
      have := Option.some.inj hv
      rw [rt_10 rfl] at hr ⊢
      exact ⟨hr.1, hr.2.1, hr.2.2.1, by omega, by omega⟩
    · cases hv
theorem value_eq (l0 l1 : List Int) (a2 a3 a4 b0 b1 b2 b3 : Int) (h : 0 ≤ b2 ∧ b2 < (l1.length : Int)) (hy : 0 ≤ rd l1 b2 ∧ rd l1 b2 ≤ 65536) (h3 : -1048576 ≤ b3 ∧ b3 ≤ 1048576) :
    patch_value.f l0 l1 a2 a3 a4 b0 b1 b2 b3 = some ((65536 + rd l1 b2 + b3) % 4294967296, decide (0 ≤ 65536 + rd l1 b2 + b3)) := by
  unfold patch_value.f place_Address.f
  rw [if_pos h.1, if_pos h.2]
  simp only [Option.bind_some, cut32]
  rw [w64 (x := 65536 + rd l1 b2) (by omega) (by omega), Int.emod_eq_of_lt (by omega) (by omega), w64 (x := 65536 + rd l1 b2) (by omega) (by omega), w64 (by omega) (by omega)]
  by_cases g : 0 ≤ 65536 + rd l1 b2 + b3
  · rw [if_pos g, decide_eq_true g, decide_eq_true (by omega)]
  · rw [if_neg g, decide_eq_false g]
theorem imm_eq (xs ys : List Int) (a2 a3 a4 a : Int) (r : S46) {n m : Int} {o : Int} (ha : -1 ≤ a ∧ a ≤ 65536) (hx : ∀ j, -1 ≤ rd xs j ∧ rd xs j ≤ 65536) (hy : ∀ j, 0 ≤ rd ys j ∧ rd ys j ≤ 65536) (h0 : 0 ≤ r.f0 ∧ r.f0 ≤ 70000) (h2 : 0 ≤ r.f2) (h3 : -1048576 ≤ r.f3 ∧ r.f3 ≤ 1048576)
    (hk : (r.f1 = 1 ∧ (o = 19 ∨ o = 20) ∧ r.f2 < (xs.length : Int)) ∨ (r.f1 = 2 ∧ o = 9 ∧ r.f2 < (ys.length : Int)) ∨ (r.f1 = 3 ∧ o = 10 ∧ r.f2 < (ys.length : Int))) :
    ∃ v ok, patch_imm.f xs ys a2 a3 a4 a r.f0 r.f1 r.f2 r.f3 = some (v, ok) ∧ immB xs ys a r = if ok = true then some v else none := by
  unfold patch_imm.f immB
  have q := hx r.f2
  have q2 := hy r.f2
  rcases hk with ⟨e, g, l⟩ | ⟨e, g, l⟩ | ⟨e, g, l⟩
  · rw [if_pos e, if_pos h2, if_pos l, if_pos e, w64 (x := rd xs r.f2 - a) (by omega) (by omega), w64 (x := rd xs r.f2 - a - r.f0) (by omega) (by omega), w64 (by omega) (by omega), fits24]
    by_cases g1 : 0 ≤ rd xs r.f2
    · refine ⟨_, _, if_pos g1, ?_⟩
      by_cases g2 : -8388608 ≤ rd xs r.f2 - a - r.f0 - 1 ∧ rd xs r.f2 - a - r.f0 - 1 ≤ 8388607
      · rw [if_pos ⟨g1, g2⟩, decide_eq_true g2, if_pos rfl]
      · rw [if_neg (fun h => g2 h.2), decide_eq_false g2]
        rfl
    · refine ⟨_, _, if_neg g1, ?_⟩
      rw [if_neg (fun h => g1 h.1)]
      rfl
  · rw [if_neg (by omega), if_neg (by omega), value_eq xs ys a2 a3 a4 r.f0 r.f1 r.f2 r.f3 ⟨h2, l⟩ q2 h3, Option.bind_some, if_pos e]
    refine ⟨_, _, rfl, ?_⟩
    by_cases g1 : 0 ≤ 65536 + rd ys r.f2 + r.f3
    · rw [if_pos g1, if_pos e, decide_eq_true g1, if_pos rfl, Int.emod_eq_of_lt g1 (by omega), w64 (by omega) (by omega)]
    · rw [if_neg g1, decide_eq_false g1]
      rfl
  · rw [if_neg (by omega), if_neg (by omega), value_eq xs ys a2 a3 a4 r.f0 r.f1 r.f2 r.f3 ⟨h2, l⟩ q2 h3, Option.bind_some, if_neg (by omega), cut16]
    refine ⟨_, _, rfl, ?_⟩
    by_cases g1 : 0 ≤ 65536 + rd ys r.f2 + r.f3
    · rw [if_pos g1, if_neg (by omega), decide_eq_true g1, if_pos rfl, Int.emod_eq_of_lt (a := 65536 + rd ys r.f2 + r.f3) (b := 4294967296) g1 (by omega), w64 (x := 65536 + rd ys r.f2 + r.f3) (by omega) (by omega), w64 (by omega) (by omega)]
    · rw [if_neg g1, decide_eq_false g1]
      rfl
/-- What holds of the words so far: those behind the last one patched are as they were. -/
def Since (c out : List Int) (p : Int) : Prop := out.length = c.length ∧ ∀ j, p < j → rd out j = rd c j
theorem since_set {c out : List Int} {p q v : Int} (h : Since c out p) (h0 : 0 ≤ q) (hp : p < q) : Since c (out.set q.toNat v) q := by
  refine ⟨by rw [List.length_set]; exact h.1, fun j hj => ?_⟩
  rw [← h.2 j (by omega)]
  unfold rd
  rw [List.getD_eq_getElem?_getD, List.getElem?_set_ne (by omega), List.getD_eq_getElem?_getD]
theorem code_loop {ds : List S44} {dd : List S55} {xs ys : List Int} (hp : Planned ds dd xs ys) (c : List Int) (hu : ∀ x ∈ c, U32 x) (hc : c.length ≤ 70000) (a2 a3 a4 f : Int) (hf0 : 0 ≤ f) (hf : f < (xs.length : Int)) (l : List S46) (hl : l.length ≤ 300) (d : Nat) :
    ∀ (i : Nat) (out : List Int) (p : Int), i ≤ l.length → l.length - i = d → Since c out p → ROk ds.length dd.length c p (l.drop i) →
    Evt (fun k => patch_Code.l0 k f out l (l.length : Int) i xs ys a2 a3 a4) (codeB xs ys (rd xs f) (l.drop i) out) := by
  induction d with
  | zero =>
    intro i out p hi hd hs hr
    rw [List.drop_of_length_le (by omega)]
    refine Evt.of fun k => ?_
    simp only [patch_Code.l0]
    rw [if_neg (by omega)]
    rfl
  | succ d ih =>
    intro i out p hi hd hs hr
    have hlt : i < l.length := by omega
    have hi1 : i + 1 ≤ l.length := by omega
    have hd1 : l.length - (i + 1) = d := by omega
    have e1 : wrap64 ((i : Int) + 1) = ((i + 1 : Nat) : Int) := by rw [w64 (by omega) (by omega)]; omega
    rw [drop_rel hlt] at hr ⊢
    generalize hrr : rd_T46 l (i : Int) = r at hr ⊢
    obtain ⟨⟨r1, r2, r3, r4, r5, r6⟩, ⟨o, a, b, cc, im, hg, hk⟩, hr'⟩ := hr
    have hcin : rd c r.f0 ∈ c := by unfold rd; exact rd_in (by omega)
    have hgs := gW_some (hu _ hcin) hg
    have hro : rd out r.f0 = rd c r.f0 := hs.2 _ r1
    have hk' : (r.f1 = 1 ∧ (o = 19 ∨ o = 20) ∧ r.f2 < (xs.length : Int)) ∨ (r.f1 = 2 ∧ o = 9 ∧ r.f2 < (ys.length : Int)) ∨ (r.f1 = 3 ∧ o = 10 ∧ r.f2 < (ys.length : Int)) := by
      rw [hp.lx, hp.ly]
      exact hk
    obtain ⟨v, ok, hv1, hv2⟩ := imm_eq xs ys a2 a3 a4 (rd xs f) r (n := ds.length) (m := dd.length) (o := o) (hp.bx f) hp.bx hp.by' ⟨r2, by omega⟩ r6 ⟨r4, r5⟩ hk'
    have hlo := hs.1
    have step : ∀ k, patch_Code.l0 (k + 1) f out l (l.length : Int) i xs ys a2 a3 a4 = (code_Get.f k (rd out r.f0)).bind fun bt => if ok = true then patch_Code.j1 k f out v l (l.length : Int) i (bt.2.2.2.2.2 != 0) xs ys a2 a3 a4 r.f0 r.f1 r.f2 r.f3 bt.1 bt.2.1 bt.2.2.1 bt.2.2.2.1 bt.2.2.2.2.1 else patch_Code.j1 k f out v l (l.length : Int) i true xs ys a2 a3 a4 r.f0 r.f1 r.f2 r.f3 bt.1 bt.2.1 bt.2.2.1 bt.2.2.2.1 bt.2.2.2.2.1 := by
      intro k
      simp only [patch_Code.l0]
      rw [if_pos (by omega), if_pos (by omega), if_pos (by omega), if_pos (by omega), if_pos (by omega), hrr, hv1, Option.bind_some, if_pos r2, if_pos (by omega)]
    have hget : Evt (fun k => code_Get.f k (rd out r.f0)) (o, a, b, cc, im, 0) := ⟨2, fun k hk2 => by
      obtain ⟨k, rfl⟩ : ∃ m, k = m + 2 := ⟨k - 2, by omega⟩
      show code_Get.f (k + 2) (rd out r.f0) = _
      rw [hro, get_eq k (hu _ hcin), hg]
      rfl⟩
    refine Evt.step step ?_
    refine Evt.bind hget ?_
    unfold codeB
    rw [hv2]
    cases ok with
    | false =>
      refine Evt.congr (fun k => if_neg (by decide)) ?_
      refine Evt.of fun k => ?_
      simp only [patch_Code.j1]
      rfl
    | true =>
      refine Evt.congr (fun k => if_pos rfl) ?_
      rw [if_pos rfl] at hv2 ⊢
      have hrt := imm_right hp.by' ⟨r4, r5⟩ hk hgs.1 hv2
      have hre : reW (rd out r.f0) v = word o a b cc v := by
        unfold reW
        rw [hro, hg]
      simp only
      rw [hre]
      have hput : Evt (fun k => code_Put.f k o a b cc v) (word o a b cc v, 0) := ⟨1, fun k hk2 => by
        obtain ⟨k, rfl⟩ : ∃ m, k = m + 1 := ⟨k - 1, by omega⟩
        show code_Put.f (k + 1) o a b cc v = _
        rw [put_eq, if_pos hrt]⟩
      refine Evt.step (h := fun k => (code_Put.f k o a b cc v).bind fun bt => (if 0 ≤ r.f0 then (if r.f0 < (out.length : Int) then (if bt.2 = 0 then (patch_Code.l0 k f (out.set (r.f0 : Int).toNat bt.1) l (l.length : Int) (wrap64 ((i : Int) + 1)) xs ys a2 a3 a4) else (some (([] : List Int), 7))) else none) else none)) (fun k => by simp only [patch_Code.j1]; exact if_neg (by decide)) ?_
      refine Evt.bind hput ?_
      have hs2 : Since c (out.set r.f0.toNat (word o a b cc v)) r.f0 := since_set hs r2 r1
      have hlo2 : r.f0 < (out.length : Int) := by omega
      refine Evt.congr (h := fun k => patch_Code.l0 k f (out.set r.f0.toNat (word o a b cc v)) l (l.length : Int) ((i + 1 : Nat) : Int) xs ys a2 a3 a4) (fun k => ?_) (ih (i + 1) (out.set r.f0.toNat (word o a b cc v)) r.f0 hi1 hd1 hs2 hr')
      show (if 0 ≤ r.f0 then _ else _) = _
      rw [if_pos r2, if_pos hlo2, e1]
      exact if_pos rfl
theorem code_eq {ds : List S44} {dd : List S55} {xs ys : List Int} (hg : Good ds dd) (hp : Planned ds dd xs ys) (en a2 a3 a4 : Int) (f : Nat) (hf : f < ds.length) :
    Evt (fun k => patch_Code.f k ds dd en xs ys a2 a3 a4 f) (codeB xs ys (rd xs f) (rd_T44 ds f).f4 (rd_T44 ds f).f3) := by
  obtain ⟨h1, h2⟩ := hg.fit.funs f hf
  have hl := hp.lx
  have h := code_loop hp (rd_T44 ds f).f3 (hg.u32 f hf) (by omega) a2 a3 a4 f (by omega) (by omega) (rd_T44 ds f).f4 (by omega) (rd_T44 ds f).f4.length 0 (rd_T44 ds f).f3 (-1) (by omega) (by omega) ⟨rfl, fun _ _ => rfl⟩ (by rw [List.drop_zero]; exact hg.rels f hf)
  rw [List.drop_zero] at h
  refine Evt.congr (fun k => ?_) h
  unfold patch_Code.f slices_Clone_uint32_uint32.f
  rw [if_pos (by omega), if_pos (by omega), if_pos (by omega), Option.bind_some]
  rfl
end Go.Proofs.Ytdnfofhfllnhiaa.Patch
end
section
/- The layer 'patch' in plain Lean: data's bytes; comparisons. Own work; a template. -/
namespace Go.Proofs.Ytdnfofhfllnhiaa.Patch
open Go.RowKit Go.Proofs.Ytdnfofhfllnhiaa.Q Go.Proofs.YtdnfofhfllnhiaaW.PrintWords Go.Proofs.YtdnfofhfllnhiaaW.PrintLast Go.Proofs.YtdnfofhfllnhiaaW.PrintMore Go.Proofs.Ytdnfofhfllnhiaa.Place Go.Proofs.Ytdnfofhfllnhiaa.Code
set_option linter.unusedVariables false
set_option linter.unusedSimpArgs false
theorem codeB_len (xs ys : List Int) (a : Int) : ∀ (l : List S46) (out : List Int), (codeB xs ys a l out).1.length ≤ out.length
  | [], out => Nat.le_refl _
  | r :: rs, out => by
    unfold codeB
    split
    · simp
    · have := codeB_len xs ys a rs (out.set r.f0.toNat (reW (rd out r.f0) (by assumption)))
      rw [List.length_set] at this
      exact this
/-! ## data's bytes -/
def bytes4 (v : Int) : List Int := [v % 256, v / 256 % 256, v / 65536 % 256, v / 16777216 % 256]
def dataT (ys : List Int) : List S46 → List Int → List Int × Int
  | [], out => (out, 0)
  | r :: rs, out => if 0 ≤ 65536 + rd ys r.f2 + r.f3 then dataT ys rs (splice out r.f0.toNat (bytes4 (65536 + rd ys r.f2 + r.f3))) else ([], 7)
theorem dataT_len (ys : List Int) {m s : Int} : ∀ (l : List S46) (out : List Int) (p : Int), DOk m s p l → (out.length : Int) = s → (dataT ys l out).1.length ≤ out.length
  | [], out, p, h, hs => Nat.le_refl _
  | r :: rs, out, p, h, hs => by
    unfold dataT
    obtain ⟨⟨h1, h2, h3, h4⟩, hr⟩ := h
    split
    · have e := length_splice out r.f0.toNat (bytes4 (65536 + rd ys r.f2 + r.f3)) (by simp [bytes4]; omega)
      have := dataT_len ys rs (splice out r.f0.toNat (bytes4 (65536 + rd ys r.f2 + r.f3))) r.f0 hr (by rw [e]; exact hs)
      rw [e] at this
      exact this
    · simp
theorem valD_eq {x y : Int} (hx : 0 ≤ x ∧ x ≤ 65536) (hy : -1048576 ≤ y ∧ y ≤ 1048576) : valD x y = 65536 + x + y := by
  unfold valD
  rw [w64 (x := 65536 + x) (by omega) (by omega), Int.emod_eq_of_lt (by omega) (by omega), w64 (x := 65536 + x) (by omega) (by omega), w64 (by omega) (by omega)]
theorem dataB_eq {ys : List Int} (hy : ∀ j, 0 ≤ rd ys j ∧ rd ys j ≤ 65536) {s : Int} : ∀ (l : List S46) (out : List Int) (p : Int), DOk ys.length s p l → (out.length : Int) = s → dataB ys l out = some (dataT ys l out)
  | [], out, p, h, hs => rfl
  | r :: rs, out, p, h, hs => by
    obtain ⟨⟨h1, h2, h3, h4, h5, h6, h7⟩, hr⟩ := h
    have e := length_splice out r.f0.toNat (bytes4 (65536 + rd ys r.f2 + r.f3)) (by simp [bytes4]; omega)
    unfold dataB dataT
    rw [if_pos ⟨h6, h7⟩, valD_eq (hy r.f2) ⟨h4, h5⟩]
    have := hy r.f2
    by_cases g : 0 ≤ 65536 + rd ys r.f2 + r.f3
    · rw [if_pos ⟨g, by omega⟩, if_pos g, if_pos ⟨h2, by omega⟩]
      exact dataB_eq hy rs _ r.f0 hr (by rw [← hs]; exact congrArg _ e)
    · rw [if_neg (fun h => g h.1), if_neg g]
/-- Data's bytes ahead of all relocations. -/
def raw (d : S55) : List Int := d.f3 ++ List.replicate (d.f2.toNat - d.f3.length) 0
theorem raw_len {d : S55} (h : (d.f3.length : Int) ≤ d.f2) : ((raw d).length : Int) = d.f2 := by
  unfold raw
  rw [List.length_append, List.length_replicate]
  omega
theorem data_eq {ds : List S44} {dd : List S55} {xs ys : List Int} (hg : Good ds dd) (hp : Planned ds dd xs ys) (en a2 a3 a4 : Int) (i : Nat) (hi : i < dd.length) :
    patch_Data.f ds dd en xs ys a2 a3 a4 i = some (dataT ys (rd_T55 dd i).f4 (raw (rd_T55 dd i))) := by
  obtain ⟨⟨h1, h2, h3, h4⟩, h5, h6⟩ := hg.fit.dats i hi
  unfold patch_Data.f
  rw [if_pos ⟨by omega, by omega, by omega, by omega, h5, by omega⟩]
  have h := hg.dels i hi
  rw [← hp.ly] at h
  exact dataB_eq hp.by' _ _ _ h (raw_len h5)
/-! ## comparisons -/
theorem words_self (xs : List Int) (hl : xs.length < 1000000) (d : Nat) : ∀ (i : Nat), i ≤ xs.length → xs.length - i = d → Evt (fun k => spliceref01_Words.l0 k xs xs i) true := by
  induction d with
  | zero =>
    intro i hi hd
    refine Evt.of fun k => ?_
    simp only [spliceref01_Words.l0]
    rw [if_neg (by omega)]
  | succ d ih =>
    intro i hi hd
    refine Evt.step (fun k => ?_) (ih (i + 1) (by omega) (by omega))
    simp only [spliceref01_Words.l0]
    rw [if_pos (by omega), if_pos (by omega), if_pos (by omega), if_pos trivial, w64 (by omega) (by omega)]
    rfl
theorem words_refl (xs : List Int) (hl : xs.length < 1000000) : Evt (fun k => spliceref01_Words.f k xs xs) true :=
  Evt.congr (fun k => if_pos rfl) (words_self xs hl xs.length 0 (by omega) (by omega))
theorem same_self (xs : List Int) (hl : xs.length < 1000000) (d : Nat) : ∀ (i : Nat), i ≤ xs.length → xs.length - i = d → Evt (fun k => spliceref01_Same.l0 k xs xs i) true := by
  induction d with
  | zero =>
    intro i hi hd
    refine Evt.of fun k => ?_
    simp only [spliceref01_Same.l0]
    rw [if_neg (by omega)]
  | succ d ih =>
    intro i hi hd
    refine Evt.step (fun k => ?_) (ih (i + 1) (by omega) (by omega))
    simp only [spliceref01_Same.l0]
    rw [if_pos (by omega), if_pos (by omega), if_pos (by omega), if_pos trivial, w64 (by omega) (by omega)]
    rfl
theorem bytes_refl (xs : List Int) (hl : xs.length < 1000000) : Evt (fun k => spliceref01_Same.f k xs xs) true :=
  Evt.congr (fun k => if_pos rfl) (same_self xs hl xs.length 0 (by omega) (by omega))
/-- What 'fine' lets through. -/
theorem fine_eq (ds : List S44) (dd : List S55) (en : Int) (os : List Int) (w : W25 ⟨ds, dd, en⟩) : ∃ b, Evt (fun k => splicelaw13_fine.f k ds dd en os) b ∧ (b = true → Good ds dd ∧ os.length ≤ 400) := by
  obtain ⟨b, hb, hb'⟩ := may_eq ds dd en
  unfold splicelaw13_fine.f
  cases b with
  | false => exact ⟨false, Evt.bind hb (Evt.of fun k => rfl), fun h => by cases h⟩
  | true =>
    cases hr : rightB ds dd with
    | false => exact ⟨false, Evt.bind hb (Evt.of fun k => by rw [if_pos rfl, right_eq ds dd en w, hr]; rfl), fun h => by cases h⟩
    | true => exact ⟨decide ((os.length : Int) ≤ 400), Evt.bind hb (Evt.of fun k => by rw [if_pos rfl, right_eq ds dd en w, hr]; rfl), fun h => ⟨good_of w (hb' rfl) hr, by have := of_decide_eq_true h; omega⟩⟩
theorem all_loop (n : Nat) (hn : n ≤ 2000000000000) (d : Nat) : ∀ (i : Nat) (xs : List Int), i ≤ n → n - i = d → xs.length = i → ∃ ys : List Int, ys.length = n ∧ Evt (fun k => place_All.l0 k xs (n : Int) i) ys := by
  induction d with
  | zero =>
    intro i xs hi hd hx
    refine ⟨xs, by omega, Evt.of fun k => ?_⟩
    simp only [place_All.l0]
    rw [if_neg (by omega)]
  | succ d ih =>
    intro i xs hi hd hx
    obtain ⟨ys, h1, h2⟩ := ih (i + 1) (xs ++ [(i : Int)]) (by omega) (by omega) (by simp; omega)
    refine ⟨ys, h1, Evt.step (fun k => ?_) h2⟩
    simp only [place_All.l0]
    rw [if_pos (by omega), if_pos (by omega), w64 (by omega) (by omega)]
    rfl
theorem cL_in (ds : List S44) : ∀ (os xs : List Int) (w : Int) (q : List Int × Int), cL ds os xs w = some q → ∀ f ∈ os, 0 ≤ f ∧ f < (ds.length : Int)
  | [], xs, w, q, h, f, hf => by cases hf
  | g :: gs, xs, w, q, h, f, hf => by
    unfold cL at h
    split at h
    · cases h
    · rename_i hn
      rcases List.mem_cons.1 hf with rfl | hf
      · omega
      · exact cL_in ds gs _ _ _ h f hf
theorem planned_ord {ds : List S44} {dd : List S55} {en : Int} {os : List Int} (h : (planS ds dd en os).2.2.2.2.2 = 0) (i : Nat) (hi : i < os.length) : 0 ≤ rd os i ∧ rd os i < (ds.length : Int) := by
  unfold planS at h
  generalize hc : cL ds os (List.replicate ds.length (-1)) 0 = c at h
  rcases c with _ | q
  · simp [resR] at h
  · refine cL_in ds os _ _ _ hc _ ?_
    unfold rd
    rw [Int.toNat_natCast]
    exact rd_in hi
end Go.Proofs.Ytdnfofhfllnhiaa.Patch
end
section
/- PatchEquation, in plain numbers. Own work; a template. -/
namespace Go.Proofs.Ytdnfofhfllnhiaa.Pure
open Go.RowKit Go.Proofs.Ytdnfofhfllnhiaa.Q Go.Proofs.YtdnfofhfllnhiaaW.PrintWords Go.Proofs.YtdnfofhfllnhiaaW.PrintLast Go.Proofs.YtdnfofhfllnhiaaW.PrintMore Go.Proofs.Ytdnfofhfllnhiaa.Place Go.Proofs.Ytdnfofhfllnhiaa.Code Go.Proofs.Ytdnfofhfllnhiaa.Patch
set_option linter.unusedVariables false
theorem rok_gt {n m : Int} {c : List Int} : ∀ (l : List S46) (p : Int), ROk n m c p l → ∀ r ∈ l, p < r.f0
  | [], p, h, r, hr => by cases hr
  | a :: l, p, h, r, hr => by
    obtain ⟨h1, _, h2⟩ := h
    rcases List.mem_cons.1 hr with rfl | hr
    · exact h1.1
    · have := rok_gt l a.f0 h2 r hr
      omega
theorem codeB_at {n m : Int} {c : List Int} (xs ys : List Int) (a : Int) : ∀ (l : List S46) (out : List Int) (p : Int), ROk n m c p l → Since c out p → (codeB xs ys a l out).2 = 0 →
    (codeB xs ys a l out).1.length = out.length ∧ (∀ q : Int, 0 ≤ q → (∀ r ∈ l, r.f0 ≠ q) → rd (codeB xs ys a l out).1 q = rd out q) ∧ ∀ r ∈ l, ∃ v, immB xs ys a r = some v ∧ rd (codeB xs ys a l out).1 r.f0 = reW (rd c r.f0) v
  | [], out, p, h, hs, he => ⟨rfl, fun q q0 hq => rfl, fun r hr => by cases hr⟩
  | r :: l, out, p, h, hs, he => by
    obtain ⟨h1, _, h2⟩ := h
    unfold codeB at he ⊢
    rcases hv : immB xs ys a r with _ | v
    · rw [hv] at he
      simp at he
    · rw [hv] at he
      simp only at he ⊢
      obtain ⟨i1, i2, i3⟩ := codeB_at xs ys a l _ r.f0 h2 (since_set hs h1.2.1 h1.1) he
      have hlo := hs.1
      refine ⟨by rw [i1, List.length_set], fun q q0 hq => ?_, fun r' hr' => ?_⟩
      · rw [i2 q q0 (fun r' hr' => hq r' (List.mem_cons_of_mem _ hr')), rd_set h1.2.1 q0 (by omega), if_neg (fun e => hq r (List.mem_cons_self ..) e.symm)]
      · rcases List.mem_cons.1 hr' with rfl | hr'
        · refine ⟨v, hv, ?_⟩
          rw [i2 _ h1.2.1 (fun r'' hr'' => by have := rok_gt l _ h2 r'' hr''; omega), rd_set h1.2.1 h1.2.1 (by omega), if_pos rfl, hs.2 _ h1.1]
        · exact i3 r' hr'
section
variable {ds : List S44} {dd : List S55} {os xs ys : List Int} {en a2 a3 a4 : Int}
theorem pe_l1 (hp : Planned ds dd xs ys) (hds : ds.length ≤ 300) (o : Nat) (ho : o ≤ 400) (f : Nat) (hf : f < ds.length) (w : List Int) (hw : w.length = (rd_T44 ds f).f3.length) (hc : (rd_T44 ds f).f3.length ≤ 70000) (hu : ∀ x ∈ (rd_T44 ds f).f3, U32 x) (l : List S46) (hl : l.length ≤ 300)
    (H : Evt (fun k => splicelaw13_PatchEquation.l0 k os ((o + 1 : Nat) : Int) ds dd en xs ys a2 a3 a4) true) (d : Nat) : ∀ (i at' : Nat) (p : Int), i ≤ w.length → w.length - i = d → at' ≤ l.length → ROk ds.length dd.length (rd_T44 ds f).f3 p (l.drop at') → (∀ r ∈ l.drop at', (i : Int) ≤ r.f0) →
    (∀ q : Int, (i : Int) ≤ q → (∀ r ∈ l.drop at', r.f0 ≠ q) → rd w q = rd (rd_T44 ds f).f3 q) → (∀ r ∈ l.drop at', ∃ v, immB xs ys (rd xs f) r = some v ∧ rd w r.f0 = reW (rd (rd_T44 ds f).f3 r.f0) v) →
    Evt (fun k => splicelaw13_PatchEquation.l1 k os o f w at' l i ds dd en xs ys a2 a3 a4) true := by
  induction d with
  | zero =>
    intro i at' p hi hd ha hr hge hst him
    refine Evt.step (fun k => ?_) H
    simp only [splicelaw13_PatchEquation.l1]
    rw [if_neg (by omega), w64 (by omega) (by omega)]
    rfl
  | succ d ih =>
    intro i at' p hi hd ha hr hge hst him
    have hil : (i : Int) < (w.length : Int) := by omega
    have hic : (i : Int) < ((rd_T44 ds f).f3.length : Int) := by omega
    have hi1 : i + 1 ≤ w.length := by omega
    have hd1 : w.length - (i + 1) = d := by omega
    have hif : (f : Int) < (ds.length : Int) := by omega
    have hi0 : 0 ≤ (i : Int) := by omega
    have hf0 : 0 ≤ (f : Int) := by omega
    have ha0 : 0 ≤ (at' : Int) := by omega
    have hlx := hp.lx
    have hly := hp.ly
    have hfx : (f : Int) < (xs.length : Int) := by omega
    -- a word that no relocation has
    have plain : (∀ r ∈ l.drop at', r.f0 ≠ (i : Int)) → Evt (fun k => splicelaw13_PatchEquation.j3 k os o f w at' l i true ds dd en xs ys a2 a3 a4) true := by
      intro hne
      have hnext := ih (i + 1) at' p hi1 hd1 ha hr (fun r hr' => by have h1 := hge r hr'; have h2 := hne r hr'; omega) (fun q hq => hst q (by omega)) him
      have hword := hst i (Int.le_refl _) hne
      have e1 : wrap64 ((i : Int) + 1) = ((i + 1 : Nat) : Int) := by rw [w64 (by omega) (by omega)]; rfl
      refine Evt.step (fun k => ?_) hnext
      simp only [splicelaw13_PatchEquation.j3]
      rw [if_pos trivial, if_pos hi0, if_pos hil, if_pos hf0, if_pos hif, if_pos hic, if_pos hword, e1]
    by_cases hat : at' < l.length
    case neg =>
      have hge2 : (at' : Int) ≥ (l.length : Int) := by omega
      refine Evt.step (fun k => ?_) (plain (fun r hr' => by rw [List.drop_of_length_le (by omega)] at hr'; cases hr'))
      simp only [splicelaw13_PatchEquation.l1]
      rw [if_pos hil, if_pos hge2]
    have hat1 : ¬ (at' : Int) ≥ (l.length : Int) := by omega
    have hat2 : (at' : Int) < (l.length : Int) := by omega
    have hdr := drop_rel hat
    have step : ∀ k, splicelaw13_PatchEquation.l1 (k + 1) os o f w at' l i ds dd en xs ys a2 a3 a4 = splicelaw13_PatchEquation.j3 k os o f w at' l i ((rd_T46 l at').f0 != (i : Int)) ds dd en xs ys a2 a3 a4 := by
      intro k
      simp only [splicelaw13_PatchEquation.l1]
      rw [if_pos hil, if_neg hat1, if_pos ha0, if_pos hat2]
    generalize hrr : rd_T46 l (at' : Int) = r at *
    by_cases hq : r.f0 = (i : Int)
    case neg =>
      refine Evt.step (fun k => by rw [step, show (r.f0 != (i : Int)) = true from bne_iff_ne.mpr hq]) (plain fun r' hr' => ?_)
      rw [hdr] at hr' hge hr
      rcases List.mem_cons.1 hr' with rfl | hr'
      · exact hq
      · have h1 := hge r (List.mem_cons_self ..)
        have h2 := rok_gt _ _ hr.2.2 r' hr'
        omega
    refine Evt.step (fun k => by rw [step, show (r.f0 != (i : Int)) = false from bne_eq_false_iff_eq.mpr hq]) ?_
    rw [hdr] at hr hge hst him
    obtain ⟨⟨r1, r2, r3, r4, r5, r6⟩, ⟨op, a, b, cc, im, hg, hk⟩, hr'⟩ := hr
    obtain ⟨v, hv, hwv⟩ := him r (List.mem_cons_self ..)
    have hcin : rd (rd_T44 ds f).f3 (i : Int) ∈ (rd_T44 ds f).f3 := by unfold rd; exact rd_in (by omega)
    rw [hq] at hg hwv
    have hgs := gW_some (hu _ hcin) hg
    have hrt := imm_right hp.by' ⟨r4, r5⟩ hk hgs.1 hv
    have hre : reW (rd (rd_T44 ds f).f3 (i : Int)) v = word op a b cc v := by
      unfold reW
      rw [hg]
    rw [hre] at hwv
    have hget1 : spliceref02_Get.f (rd w (i : Int)) = some (op, a, b, cc, v, true) := by
      obtain ⟨g1, g2, _⟩ := word_range hrt
      rw [hwv, ref_get_eq ⟨g1, g2⟩, gW_word hrt]
      rfl
    have hget2 : spliceref02_Get.f (rd (rd_T44 ds f).f3 (i : Int)) = some (op, a, b, cc, im, true) := by
      rw [ref_get_eq (hu _ hcin), hg]
      rfl
    have hnext := ih (i + 1) (at' + 1) r.f0 hi1 hd1 (by omega) hr' (fun r' hr'' => by have := rok_gt _ _ hr' r' hr''; omega) (fun q hq2 hn => hst q (by omega) (fun r' hr'' => by
      rcases List.mem_cons.1 hr'' with rfl | hr''
      · omega
      · exact hn r' hr'')) (fun r' hr'' => him r' (List.mem_cons_of_mem _ hr''))
    have hxf := hp.bx f
    have hxt := hp.bx r.f2
    have hyt := hp.by' r.f2
    refine Evt.step (h := fun k => splicelaw13_PatchEquation.j4 k os o f w ((at' + 1 : Nat) : Int) l i v false ds dd en xs ys a2 a3 a4 r.f0 r.f1 r.f2 r.f3) (fun k => ?_) ?_
    · have e2 : wrap64 ((at' : Int) + 1) = ((at' + 1 : Nat) : Int) := by rw [w64 (by omega) (by omega)]; rfl
      simp only [splicelaw13_PatchEquation.j3]
      rw [if_neg (by decide), if_pos ha0, if_pos hat2, if_pos hi0, if_pos hil, hget1, Option.bind_some, if_pos hf0, if_pos hif, if_pos hic, hget2, Option.bind_some, hrr, e2]
      simp
    unfold immB at hv
    rcases hk with ⟨k1, g, l2⟩ | ⟨k1, g, l2⟩ | ⟨k1, g, l2⟩
    · rw [if_pos k1] at hv
      have l3 : r.f2 < (xs.length : Int) := by omega
      have hvv : v = rd xs r.f2 - rd xs f - r.f0 - 1 := by
        split at hv
        · exact (Option.some.inj hv).symm
        · cases hv
      have n2 : ¬ r.f1 = 2 := by omega
      have n3 : ¬ r.f1 = 3 := by omega
      have ev : wrap64 (wrap64 (wrap64 (rd xs f + (i : Int)) + 1) + v) = rd xs r.f2 := by
        rw [w64 (x := rd xs f + (i : Int)) (by omega) (by omega), w64 (x := rd xs f + (i : Int) + 1) (by omega) (by omega), w64 (by omega) (by omega)]
        omega
      have e1 : wrap64 ((i : Int) + 1) = ((i + 1 : Nat) : Int) := by rw [w64 (by omega) (by omega)]; rfl
      refine Evt.step (h := fun k => splicelaw13_PatchEquation.j5 k os o f w ((at' + 1 : Nat) : Int) l i v false ds dd en xs ys a2 a3 a4 r.f0 r.f1 r.f2 r.f3) (fun k => ?_) (Evt.step (fun k => ?_) hnext)
      · simp only [splicelaw13_PatchEquation.j4]
        rw [if_neg (by decide), if_pos k1, if_pos hf0, if_pos hfx, if_pos r6, if_pos l3, ev, bne_self_eq_false]
      · simp only [splicelaw13_PatchEquation.j5]
        rw [if_neg (by decide), if_neg n2, if_neg n3, e1]
    · have n1 : ¬ r.f1 = 1 := by omega
      have n3 : ¬ r.f1 = 3 := by omega
      rw [if_neg n1] at hv
      have l3 : r.f2 < (ys.length : Int) := by omega
      have hvv : 0 ≤ 65536 + rd ys r.f2 + r.f3 ∧ v = (65536 + rd ys r.f2 + r.f3) / 65536 := by
        split at hv
        · rename_i h0
          try rw [if_pos k1] at hv
          exact ⟨h0, (Option.some.inj hv).symm⟩
        · cases hv
      obtain ⟨v0, v1⟩ := hvv
      have ev : v = wrap64 (Int.tdiv (wrap64 (wrap64 (65536 + rd ys r.f2) + r.f3)) 65536) := by
        rw [w64 (x := 65536 + rd ys r.f2) (by omega) (by omega), w64 (x := 65536 + rd ys r.f2 + r.f3) (by omega) (by omega), Int.tdiv_eq_ediv_of_nonneg v0, w64 (by omega) (by omega)]
        exact v1
      have e1 : wrap64 ((i : Int) + 1) = ((i + 1 : Nat) : Int) := by rw [w64 (by omega) (by omega)]; rfl
      refine Evt.step (h := fun k => splicelaw13_PatchEquation.j5 k os o f w ((at' + 1 : Nat) : Int) l i v false ds dd en xs ys a2 a3 a4 r.f0 r.f1 r.f2 r.f3) (fun k => ?_) (Evt.step (fun k => ?_) hnext)
      · simp only [splicelaw13_PatchEquation.j4]
        rw [if_neg (by decide), if_neg n1]
      · simp only [splicelaw13_PatchEquation.j5]
        rw [if_neg (by decide), if_pos k1, if_pos r6, if_pos l3, if_pos ev, if_neg n3, e1]
    · have n1 : ¬ r.f1 = 1 := by omega
      have n2 : ¬ r.f1 = 2 := by omega
      rw [if_neg n1] at hv
      have l3 : r.f2 < (ys.length : Int) := by omega
      have hvv : 0 ≤ 65536 + rd ys r.f2 + r.f3 ∧ v = (65536 + rd ys r.f2 + r.f3) % 65536 := by
        split at hv
        · rename_i h0
          try rw [if_neg n2] at hv
          exact ⟨h0, (Option.some.inj hv).symm⟩
        · cases hv
      obtain ⟨v0, v1⟩ := hvv
      have ev : v = Int.tmod (wrap64 (wrap64 (65536 + rd ys r.f2) + r.f3)) 65536 := by
        rw [w64 (x := 65536 + rd ys r.f2) (by omega) (by omega), w64 (x := 65536 + rd ys r.f2 + r.f3) (by omega) (by omega), Int.tmod_eq_emod_of_nonneg v0]
        exact v1
      have e1 : wrap64 ((i : Int) + 1) = ((i + 1 : Nat) : Int) := by rw [w64 (by omega) (by omega)]; rfl
      refine Evt.step (h := fun k => splicelaw13_PatchEquation.j5 k os o f w ((at' + 1 : Nat) : Int) l i v false ds dd en xs ys a2 a3 a4 r.f0 r.f1 r.f2 r.f3) (fun k => ?_) (Evt.step (fun k => ?_) hnext)
      · simp only [splicelaw13_PatchEquation.j4]
        rw [if_neg (by decide), if_neg n1]
      · simp only [splicelaw13_PatchEquation.j5]
        rw [if_neg (by decide), if_neg n2, if_pos k1, if_pos r6, if_pos l3, if_pos ev, e1]
theorem pe_l0 (hg : Patch.Good ds dd) (hp : Planned ds dd xs ys) (hl : os.length ≤ 400) (ho : ∀ i : Nat, i < os.length → 0 ≤ rd os i ∧ rd os i < (ds.length : Int)) (d : Nat) : ∀ (i : Nat), i ≤ os.length → os.length - i = d →
    Evt (fun k => splicelaw13_PatchEquation.l0 k os i ds dd en xs ys a2 a3 a4) true := by
  induction d with
  | zero =>
    intro i hi hd
    refine Evt.of fun k => ?_
    simp only [splicelaw13_PatchEquation.l0]
    rw [if_neg (by omega)]
  | succ d ih =>
    intro i hi hd
    obtain ⟨o1, o2⟩ := ho i (by omega)
    obtain ⟨f, hf⟩ : ∃ f : Nat, rd os i = f := ⟨(rd os i).toNat, by omega⟩
    have hfl : f < ds.length := by omega
    obtain ⟨h1, h2⟩ := hg.fit.funs f hfl
    have c1 : (i : Int) < (os.length : Int) := by omega
    have c2 : 0 ≤ (i : Int) := by omega
    have c3 : 0 ≤ (f : Int) := by omega
    have c4 : (f : Int) < (ds.length : Int) := by omega
    have hn := ih (i + 1) (by omega) (by omega)
    refine Evt.step (h := fun k => (patch_Code.f k ds dd en xs ys a2 a3 a4 f).bind fun bt => if bt.2 = 0 then splicelaw13_PatchEquation.l1 k os i f bt.1 0 (rd_T44 ds f).f4 0 ds dd en xs ys a2 a3 a4 else splicelaw13_PatchEquation.l0 k os ((i + 1 : Nat) : Int) ds dd en xs ys a2 a3 a4) (fun k => ?_) ?_
    · have e1 : wrap64 ((i : Int) + 1) = ((i + 1 : Nat) : Int) := by rw [w64 (by omega) (by omega)]; rfl
      simp only [splicelaw13_PatchEquation.l0]
      rw [if_pos c1, if_pos c2, hf, e1]
      refine congrArg (Option.bind _) (funext fun bt => ?_)
      rw [if_pos c3, if_pos c4]
    refine Evt.bind (code_eq hg hp en a2 a3 a4 f hfl) ?_
    by_cases he : (codeB xs ys (rd xs f) (rd_T44 ds f).f4 (rd_T44 ds f).f3).2 = 0
    · refine Evt.congr (fun k => if_pos he) ?_
      obtain ⟨q1, q2, q3⟩ := codeB_at xs ys (rd xs f) _ _ _ (hg.rels f hfl) ⟨rfl, fun _ _ => rfl⟩ he
      generalize (codeB xs ys (rd xs f) (rd_T44 ds f).f4 (rd_T44 ds f).f3).1 = w at *
      exact pe_l1 hp hg.fit.lens i (by omega) f hfl w q1 (by omega) (hg.u32 f hfl) (rd_T44 ds f).f4 (by omega) hn w.length 0 0 (-1) (by omega) (by omega) (by omega) (by rw [List.drop_zero]; exact hg.rels f hfl) (fun r hr => by
        rw [List.drop_zero] at hr
        have := rok_gt _ _ (hg.rels f hfl) r hr
        omega) (fun q h0 hne => q2 q h0 (by rw [List.drop_zero] at hne; exact hne)) (fun r hr => q3 r (by rw [List.drop_zero] at hr; exact hr))
    · exact Evt.congr (fun k => if_neg he) hn
end
theorem pe_j0 (ds : List S44) (dd : List S55) (en : Int) (os : List Int) (b : Bool) (h : b = false → Patch.Good ds dd ∧ os.length ≤ 400) : Evt (fun k => splicelaw13_PatchEquation.j0 k os b ds dd en) true := by
  cases b with
  | true =>
    refine Evt.step (h := fun k => (splicelaw13_awake.f k).bind fun t => some t) (fun k => ?_) (Evt.bind awake13 (Evt.of fun k => rfl))
    simp only [splicelaw13_PatchEquation.j0]
    rfl
  | false =>
    obtain ⟨hg, hl⟩ := h rfl
    have hf := hg.fit
    refine Evt.step (h := fun k => (place_Plan.f k ds dd en os).bind fun bt => if bt.2.2.2.2.2 = 0 then splicelaw13_PatchEquation.l0 k os 0 ds dd en bt.1 bt.2.1 bt.2.2.1 bt.2.2.2.1 bt.2.2.2.2.1 else some true) (fun k => ?_) ?_
    · simp only [splicelaw13_PatchEquation.j0]
      exact if_neg (by decide)
    refine Evt.bind (plan_eq ds dd en os hf.small hl hf.lens hf.lend) ?_
    by_cases he : (planS ds dd en os).2.2.2.2.2 = 0
    · refine Evt.congr (fun k => if_pos he) ?_
      exact pe_l0 hg (planned hf he) hl (planned_ord he) os.length 0 (by omega) (by omega)
    · exact Evt.of fun k => if_neg he
theorem PatchEquation : splicelaw13_PatchEquation.Pure := by
  intro p os hw ho
  refine Evt.out ?_
  refine Evt.bind awake13 ?_
  refine Evt.congr (fun k => if_pos rfl) ?_
  obtain ⟨b, hb, hb'⟩ := fine_eq p.f0 p.f1 p.f2 os hw
  refine Evt.bind hb ?_
  exact pe_j0 _ _ _ _ _ fun h => hb' (by simpa using h)
end Go.Proofs.Ytdnfofhfllnhiaa.Pure
end