/- What place.Plan and the reference's plan come to, in plain Lean. Own work; a template. -/
import Derived.Test.YtddggnfbplekhaaQD0
namespace Go.Proofs.Ytddggnfbplekhaa.Place
open Go.RowKit Go.Proofs.Ytddggnfbplekhaa.Q Go.Proofs.YtddggnfbplekhaaW.PrintWords Go.Proofs.YtddggnfbplekhaaW.PrintLast Go.Proofs.YtddggnfbplekhaaW.PrintMore
set_option linter.unusedVariables false
set_option linter.unusedSimpArgs false

/-- From some fuel on, the answer. -/
def Evt {α : Type} (g : Nat → Option α) (r : α) : Prop := ∃ K, ∀ k, K ≤ k → g k = some r
theorem Evt.step {α : Type} {g h : Nat → Option α} {r : α} (e : ∀ k, g (k + 1) = h k) (H : Evt h r) : Evt g r := by
  obtain ⟨K, H⟩ := H
  refine ⟨K + 1, fun k hk => ?_⟩
  obtain ⟨k, rfl⟩ : ∃ m, k = m + 1 := ⟨k - 1, by omega⟩
  rw [e]
  exact H k (by omega)
theorem Evt.of {α : Type} {g : Nat → Option α} {r : α} (e : ∀ k, g (k + 1) = some r) : Evt g r := by
  refine ⟨1, fun k hk => ?_⟩
  obtain ⟨k, rfl⟩ : ∃ m, k = m + 1 := ⟨k - 1, by omega⟩
  exact e k
theorem Evt.congr {α : Type} {g h : Nat → Option α} {r : α} (e : ∀ k, g k = h k) (H : Evt h r) : Evt g r := by
  obtain ⟨K, H⟩ := H
  exact ⟨K, fun k hk => (e k).trans (H k hk)⟩
theorem Evt.bind {α β : Type} {f : Nat → Option α} {g : Nat → α → Option β} {a : α} {r : β} (h1 : Evt f a) (h2 : Evt (fun k => g k a) r) : Evt (fun k => (f k).bind (g k)) r := by
  obtain ⟨K, h1⟩ := h1
  obtain ⟨L, h2⟩ := h2
  refine ⟨max K L, fun k hk => ?_⟩
  show (f k).bind (g k) = some r
  rw [h1 k (by omega)]
  exact h2 k (by omega)
theorem Evt.out {α : Type} {g : Nat → Option α} {r : α} (H : Evt g r) : ∃ k, g k = Option.some r := by
  obtain ⟨K, H⟩ := H
  exact ⟨K, H K (Nat.le_refl _)⟩
theorem Evt.mono {α : Type} {g : Nat → Option α} {r : α} (m : ∀ k, LeO (g k) (g (k + 1))) (K : Nat) (h : g K = some r) : Evt g r := by
  refine ⟨K, fun k hk => ?_⟩
  obtain ⟨d, rfl⟩ : ∃ d, k = K + d := ⟨k - K, by omega⟩
  clear hk
  induction d with
  | zero => exact h
  | succ d ih => exact m _ _ ih
theorem w64 {x : Int} (h1 : -9223372036854775808 ≤ x) (h2 : x ≤ 9223372036854775807) : wrap64 x = x := by
  unfold wrap64
  omega
theorem rd_set {xs : List Int} {f j v : Int} (hf : 0 ≤ f) (hj : 0 ≤ j) (h : f < xs.length) : rd (xs.set f.toNat v) j = if j = f then v else rd xs j := by
  unfold rd
  by_cases e : j = f
  · subst e
    rw [if_pos rfl, List.getD_eq_getElem?_getD, List.getElem?_set_self (by omega)]
    rfl
  · rw [if_neg e, List.getD_eq_getElem?_getD, List.getElem?_set_ne (by omega), List.getD_eq_getElem?_getD]

/-! ## the functions' places -/
/-- The order gone through: the places, the words; none: not an order. -/
def cL (ds : List S42) : List Int → List Int → Int → Option (List Int × Int)
  | [], xs, w => some (xs, w)
  | f :: fs, xs, w => if f < 0 ∨ (ds.length : Int) ≤ f ∨ 0 ≤ rd xs f then none else cL ds fs (xs.set f.toNat w) (w + ((rd_T42 ds f).f3.length : Int))
theorem cL_drop (ds : List S42) (os xs : List Int) (w : Int) (i : Nat) (h : i < os.length) : cL ds (os.drop i) xs w =
    if rd os i < 0 ∨ (ds.length : Int) ≤ rd os i ∨ 0 ≤ rd xs (rd os i) then none else cL ds (os.drop (i + 1)) (xs.set (rd os i).toNat w) (w + ((rd_T42 ds (rd os i)).f3.length : Int)) := by
  rw [List.drop_eq_getElem_cons h]
  have : rd os i = os[i] := by unfold rd; simp [List.getD_eq_getElem?_getD, h]
  rw [this]
  rfl
def okC (en : Int) (xs : List Int) : Prop := 0 ≤ en ∧ en < xs.length ∧ 0 ≤ rd xs en
instance (en : Int) (xs : List Int) : Decidable (okC en xs) := by unfold okC; infer_instance
def resC (en : Int) : Option (List Int × Int) → List Int × Int × Bool
  | none => ([], 0, false)
  | some (xs, w) => (xs, w, decide (okC en xs))
def Small (ds : List S42) : Prop := ∀ j : Int, ((rd_T42 ds j).f3.length : Int) ≤ 70000
theorem codes_l1 (ds : List S42) (dd : List S39) (en : Int) (os : List Int) (hs : Small ds) (ho : os.length ≤ 400) (d : Nat) : ∀ (i : Nat) (xs : List Int) (w : Int), i ≤ os.length → os.length - i = d → xs.length = ds.length → 0 ≤ w → w + d * 70000 ≤ 30000000 →
    Evt (fun k => place_codes.l1 k xs w os (os.length : Int) i ds dd en) (resC en (cL ds (os.drop i) xs w)) := by
  induction d with
  | zero =>
    intro i xs w hi hd hl hw hb
    have : os.drop i = [] := List.drop_of_length_le (by omega)
    rw [this]
    refine Evt.of fun k => ?_
    simp only [place_codes.l1, cL, resC]
    rw [if_neg (by omega)]
    by_cases h1 : 0 ≤ en
    · rw [if_pos h1]
      by_cases h2 : en < (xs.length : Int)
      · rw [if_pos h2, if_pos h1]
        congr 3
        unfold okC
        simp [h1, h2]
      · rw [if_neg h2]
        congr 3
        unfold okC
        simp [h2]
    · rw [if_neg h1]
      congr 3
      unfold okC
      simp [h1]
  | succ d ih =>
    intro i xs w hi hd hl hw hb
    have hlt : i < os.length := by omega
    rw [cL_drop ds os xs w i hlt]
    generalize hf : rd os (i : Int) = f
    by_cases h1 : f < 0
    · rw [if_pos (Or.inl h1)]
      refine Evt.of fun k => ?_
      simp only [place_codes.l1]
      rw [if_pos (by omega), if_pos (by omega), if_pos (by omega), hf, if_pos h1]
      rfl
    by_cases h2 : (ds.length : Int) ≤ f
    · rw [if_pos (Or.inr (Or.inl h2))]
      refine Evt.of fun k => ?_
      simp only [place_codes.l1]
      rw [if_pos (by omega), if_pos (by omega), if_pos (by omega), hf, if_neg h1, if_pos (by omega)]
      rfl
    by_cases h3 : 0 ≤ rd xs f
    · rw [if_pos (Or.inr (Or.inr h3))]
      refine Evt.of fun k => ?_
      simp only [place_codes.l1]
      rw [if_pos (by omega), if_pos (by omega), if_pos (by omega), hf, if_neg h1, if_neg (by omega), if_pos (by omega), if_pos (by omega), if_pos h3]
      rfl
    · rw [if_neg (by omega)]
      have hc := hs f
      refine Evt.step (fun k => ?_) (ih (i + 1) (xs.set f.toNat w) (w + ((rd_T42 ds f).f3.length : Int)) (by omega) (by omega) (by rw [List.length_set]; exact hl) (by omega) (by omega))
      simp only [place_codes.l1]
      rw [if_pos (by omega), if_pos (by omega), if_pos (by omega), hf, if_neg h1, if_neg (by omega), if_pos (by omega), if_pos (by omega), if_neg h3, if_pos (by omega), w64 (by omega) (by omega), w64 (by omega) (by omega)]
      rfl
/-- The first i rows are -1. -/
def filled (xs : List Int) (i : Nat) : List Int := List.replicate i (-1) ++ xs.drop i
theorem filled_len {xs : List Int} {i : Nat} (h : i ≤ xs.length) : (filled xs i).length = xs.length := by unfold filled; simp; omega
theorem filled_succ {xs : List Int} {i : Nat} (h : i < xs.length) : (filled xs i).set i (-1) = filled xs (i + 1) := by
  unfold filled
  rw [List.drop_eq_getElem_cons h, List.set_append_right _ _ (by simp), List.length_replicate, Nat.sub_self, List.set_cons_zero, List.replicate_succ', List.append_assoc]
  rfl
theorem filled_all {xs : List Int} : filled xs xs.length = List.replicate xs.length (-1) := by unfold filled; simp
theorem codes_l0 (ds : List S42) (dd : List S39) (en : Int) (os zs : List Int) (r : List Int × Int × Bool) (hz : zs.length < 1000000) (H : Evt (fun k => place_codes.l1 k (List.replicate zs.length (-1)) 0 os (os.length : Int) 0 ds dd en) r) (d : Nat) : ∀ (i : Nat), i ≤ zs.length → zs.length - i = d →
    Evt (fun k => place_codes.l0 k os (filled zs i) (zs.length : Int) i ds dd en) r := by
  induction d with
  | zero =>
    intro i hi hd
    obtain rfl : i = zs.length := by omega
    refine Evt.step (fun k => ?_) H
    simp only [place_codes.l0]
    rw [if_neg (by omega), filled_all]
  | succ d ih =>
    intro i hi hd
    refine Evt.step (fun k => ?_) (ih (i + 1) (by omega) (by omega))
    simp only [place_codes.l0]
    rw [if_pos (by omega), if_pos (by omega), if_pos (by rw [filled_len hi]; omega), w64 (by omega) (by omega), Int.toNat_natCast, filled_succ (by omega)]
    rfl
theorem codes_eq (ds : List S42) (dd : List S39) (en : Int) (os : List Int) (hs : Small ds) (ho : os.length ≤ 400) (hd : ds.length ≤ 300) :
    Evt (fun k => place_codes.f k ds dd en os) (resC en (cL ds os (List.replicate ds.length (-1)) 0)) := by
  have h1 := codes_l1 ds dd en os hs ho os.length 0 (List.replicate ds.length (-1)) 0 (by omega) (by omega) (by simp) (by omega) (by omega)
  have h2 := codes_l0 ds dd en os (List.replicate ds.length 0) (resC en (cL ds os (List.replicate ds.length (-1)) 0)) (by simp; omega) (by simpa using h1) ds.length 0 (by omega) (by simp)
  refine Evt.congr (fun k => ?_) h2
  show place_codes.f k ds dd en os = _
  unfold place_codes.f
  rw [if_pos (by omega), if_pos (by omega), Option.bind_some, Int.toNat_natCast]
  rfl

/-! ## the data's places -/
theorem up_facts {e al : Int} (h : 0 ≤ e) (h' : e ≤ 1099511627776) (h1 : 1 ≤ al) (h2 : al ≤ 16) : e ≤ upZ e al ∧ upZ e al ≤ e + 15 ∧ upZ e al % al = 0 ∧ (e % al = 0 → upZ e al = e) ∧ (e % al ≠ 0 → e + 1 ≤ 1099511627776 → upZ (e + 1) al = upZ e al) := by
  unfold upZ
  rw [if_pos (by omega)]
  have : al = 1 ∨ al = 2 ∨ al = 3 ∨ al = 4 ∨ al = 5 ∨ al = 6 ∨ al = 7 ∨ al = 8 ∨ al = 9 ∨ al = 10 ∨ al = 11 ∨ al = 12 ∨ al = 13 ∨ al = 14 ∨ al = 15 ∨ al = 16 := by omega
  rcases this with rfl | rfl | rfl | rfl | rfl | rfl | rfl | rfl | rfl | rfl | rfl | rfl | rfl | rfl | rfl | rfl
  all_goals
    refine ⟨by omega, by omega, by omega, by omega, fun h3 h4 => ?_⟩
    rw [if_pos (by omega)]
    omega
/-- What the laws let through of the data. -/
def Fine (dd : List S39) : Prop := ∀ j : Nat, j < dd.length → 1 ≤ (rd_T39 dd j).f0 ∧ (rd_T39 dd j).f0 ≤ 16 ∧ 1 ≤ (rd_T39 dd j).f2 ∧ (rd_T39 dd j).f2 ≤ 4096
theorem layD_dr (fx : Bool) (ds : List S39) (i : Nat) (h : i < ds.length) (xs : List Int) (e : Int) : layD fx (ds.drop i) i xs e =
    if (rd_T39 ds i).f1 = fx then layD fx (ds.drop (i + 1)) (i + 1) (xs.set i (upZ e (rd_T39 ds i).f0)) (wrap64 (upZ e (rd_T39 ds i).f0 + (rd_T39 ds i).f2)) else layD fx (ds.drop (i + 1)) (i + 1) xs e := by
  rw [List.drop_eq_getElem_cons h]
  have : rd_T39 ds i = ds[i] := by unfold rd_T39; simp [List.getD_eq_getElem?_getD, h]
  rw [this]
  rfl
theorem layD_bound (fx : Bool) (dd : List S39) (hf : Fine dd) (d : Nat) : ∀ (i : Nat) (xs : List Int) (e : Int), i ≤ dd.length → dd.length - i = d → 0 ≤ e → e + d * 4111 ≤ 100000000 →
    e ≤ (layD fx (dd.drop i) i xs e).2 ∧ (layD fx (dd.drop i) i xs e).2 ≤ e + d * 4111 := by
  induction d with
  | zero =>
    intro i xs e hi hd h0 h1
    rw [List.drop_of_length_le (by omega)]
    simp only [layD]
    omega
  | succ d ih =>
    intro i xs e hi hd h0 h1
    rw [layD_dr fx dd i (by omega)]
    obtain ⟨a1, a2, a3, a4⟩ := hf i (by omega)
    split
    · obtain ⟨b1, b2, _⟩ := up_facts h0 (by omega) a1 a2
      rw [w64 (by omega) (by omega)]
      have := ih (i + 1) (xs.set i (upZ e (rd_T39 dd i).f0)) (upZ e (rd_T39 dd i).f0 + (rd_T39 dd i).f2) (by omega) (by omega) (by omega) (by omega)
      omega
    · have := ih (i + 1) xs e (by omega) (by omega) (by omega) (by omega)
      omega
abbrev R6 := List Int × List Int × Int × Int × Int × Int
theorem ref_l5 (ds : List S42) (dd : List S39) (en : Int) (xs ys : List Int) (w wr p : Int) (i : Nat) (r : R6) (hf : Fine dd) (hi : i < dd.length) (hy : ys.length = dd.length) (hl : dd.length ≤ 300) (d : Nat) : ∀ (e : Int), 0 ≤ e → e ≤ 200000000 → upZ e (rd_T39 dd i).f0 ≤ 100000000 → (upZ e (rd_T39 dd i).f0 - e).toNat = d →
    Evt (fun k => spliceref12_Plan.l4 k p ((i + 1 : Nat) : Int) ds dd en xs (ys.set i (upZ e (rd_T39 dd i).f0)) w (wrap64 (upZ e (rd_T39 dd i).f0 + (rd_T39 dd i).f2)) wr) r →
    Evt (fun k => spliceref12_Plan.l5 k p i ds dd en xs ys w e wr) r := by
  obtain ⟨a1, a2, a3, a4⟩ := hf i hi
  induction d with
  | zero =>
    intro e h0 h1 h1' hd H
    obtain ⟨b1, b2, b3, b4, b5⟩ := up_facts h0 (by omega) a1 a2
    have hu : upZ e (rd_T39 dd i).f0 = e := by omega
    rw [hu] at b3 H
    refine Evt.step (fun k => ?_) H
    simp only [spliceref12_Plan.l5]
    rw [if_pos (by omega), if_pos (by omega), if_neg (by omega), Int.tmod_eq_emod_of_nonneg h0, if_pos b3, if_pos (by omega), w64 (x := (i : Int) + 1) (by omega) (by omega)]
    rfl
  | succ d ih =>
    intro e h0 h1 h1' hd H
    obtain ⟨b1, b2, b3, b4, b5⟩ := up_facts h0 (by omega) a1 a2
    have hn : e % (rd_T39 dd i).f0 ≠ 0 := fun h => by have := b4 h; omega
    have hu := b5 hn (by omega)
    refine Evt.step (fun k => ?_) (ih (e + 1) (by omega) (by omega) (by omega) (by omega) (by rw [hu]; exact H))
    simp only [spliceref12_Plan.l5]
    rw [if_pos (by omega), if_pos (by omega), if_neg (by omega), Int.tmod_eq_emod_of_nonneg h0, if_neg hn, w64 (by omega) (by omega)]
theorem ref_l3 (ds : List S42) (dd : List S39) (en : Int) (xs ys : List Int) (w wr : Int) (r : R6) (d : Nat) : ∀ (e : Int), 0 ≤ e → e ≤ 100000000 → (upZ e 16 - e).toNat = d →
    Evt (fun k => spliceref12_Plan.j5 k 1 ds dd en xs ys w (upZ e 16) (upZ e 16)) r →
    Evt (fun k => spliceref12_Plan.l3 k 1 ds dd en xs ys w e wr) r := by
  induction d with
  | zero =>
    intro e h0 h1 hd H
    obtain ⟨b1, b2, b3, b4, b5⟩ := up_facts (al := 16) h0 (by omega) (by omega) (by omega)
    have hu : upZ e 16 = e := by omega
    rw [hu] at b3 H
    refine Evt.step (fun k => ?_) H
    simp only [spliceref12_Plan.l3]
    rw [Int.tmod_eq_emod_of_nonneg h0, if_pos b3]
  | succ d ih =>
    intro e h0 h1 hd H
    obtain ⟨b1, b2, b3, b4, b5⟩ := up_facts (al := 16) h0 (by omega) (by omega) (by omega)
    have hn : e % 16 ≠ 0 := fun h => by have := b4 h; omega
    have hu := b5 hn (by omega)
    refine Evt.step (fun k => ?_) (ih (e + 1) (by omega) (by omega) (by omega) (by rw [hu]; exact H))
    simp only [spliceref12_Plan.l3]
    rw [Int.tmod_eq_emod_of_nonneg h0, if_neg hn, w64 (by omega) (by omega)]
theorem ref_l4 (ds : List S42) (dd : List S39) (en : Int) (xs : List Int) (w wr p : Int) (fx : Bool) (hp : (p = 0 ∧ fx = true) ∨ (p = 1 ∧ fx = false)) (r : R6) (hf : Fine dd) (hl : dd.length ≤ 300) (d : Nat) : ∀ (i : Nat) (ys : List Int) (e : Int), i ≤ dd.length → dd.length - i = d → ys.length = dd.length → 0 ≤ e → e + d * 4111 ≤ 100000000 →
    Evt (fun k => spliceref12_Plan.l2 k (p + 1) ds dd en xs (layD fx (dd.drop i) i ys e).1 w (layD fx (dd.drop i) i ys e).2 wr) r →
    Evt (fun k => spliceref12_Plan.l4 k p i ds dd en xs ys w e wr) r := by
  have hpw : wrap64 (p + 1) = p + 1 := w64 (by omega) (by omega)
  have hq : (p == 0) = fx := by rcases hp with ⟨rfl, rfl⟩ | ⟨rfl, rfl⟩ <;> rfl
  induction d with
  | zero =>
    intro i ys e hi hd hy h0 h1 H
    rw [List.drop_of_length_le (by omega)] at H
    refine Evt.step (fun k => ?_) H
    simp only [spliceref12_Plan.l4]
    rw [if_neg (by omega), hpw]
    rfl
  | succ d ih =>
    intro i ys e hi hd hy h0 h1 H
    rw [layD_dr fx dd i (by omega)] at H
    obtain ⟨a1, a2, a3, a4⟩ := hf i (by omega)
    by_cases hx : (rd_T39 dd i).f1 = fx
    · rw [if_pos hx] at H
      obtain ⟨b1, b2, b3, b4, b5⟩ := up_facts h0 (by omega) a1 a2
      have hw : wrap64 (upZ e (rd_T39 dd i).f0 + (rd_T39 dd i).f2) = upZ e (rd_T39 dd i).f0 + (rd_T39 dd i).f2 := w64 (by omega) (by omega)
      have h4 := ih (i + 1) (ys.set i (upZ e (rd_T39 dd i).f0)) (wrap64 (upZ e (rd_T39 dd i).f0 + (rd_T39 dd i).f2)) (by omega) (by omega) (by rw [List.length_set]; exact hy) (by omega) (by omega) H
      refine Evt.step (fun k => ?_) (ref_l5 ds dd en xs ys w wr p i r hf (by omega) hy hl _ e h0 (by omega) (by omega) rfl h4)
      simp only [spliceref12_Plan.l4]
      rw [if_pos (by omega), if_pos (by omega), if_pos (by rw [hq, hx]; simp)]
    · rw [if_neg hx] at H
      refine Evt.step (fun k => ?_) (ih (i + 1) ys e (by omega) (by omega) hy h0 (by omega) H)
      simp only [spliceref12_Plan.l4]
      rw [if_pos (by omega), if_pos (by omega), if_neg (by rw [hq]; simpa using hx), w64 (by omega) (by omega)]
      rfl
/-- What both answer once the functions stand. -/
def fin (dd : List S39) (xs : List Int) (w : Int) : R6 :=
  let r := layD true dd 0 (List.replicate dd.length 0) 0
  let q := layD false dd 0 r.1 (upZ r.2 16)
  if w > 65536 then ([], [], 0, 0, 0, 8) else if q.2 > 65536 then ([], [], 0, 0, 0, 8) else (xs, q.1, w, q.2, upZ r.2 16, 0)
theorem ref_l2 (ds : List S42) (dd : List S39) (en : Int) (xs : List Int) (w : Int) (hf : Fine dd) (hl : dd.length ≤ 300) :
    Evt (fun k => spliceref12_Plan.l2 k 0 ds dd en xs (List.replicate dd.length 0) w 0 0) (fin dd xs w) := by
  unfold fin
  have hb := layD_bound true dd hf dd.length 0 (List.replicate dd.length 0) 0 (by omega) (by omega) (by omega) (by omega)
  have hn := layD_len true dd 0 (List.replicate dd.length 0) 0
  rw [List.drop_zero] at hb
  have h0 := ref_l4 ds dd en xs w 0 0 true (Or.inl ⟨rfl, rfl⟩)
  refine Evt.step (h := fun k => spliceref12_Plan.j5 k 0 ds dd en xs (List.replicate dd.length 0) w 0 0) (fun k => ?_) ?_
  · simp only [spliceref12_Plan.l2]
    rw [if_pos (by omega), if_neg (by omega)]
  refine Evt.step (h := fun k => spliceref12_Plan.l4 k 0 ((0 : Nat) : Int) ds dd en xs (List.replicate dd.length 0) w 0 0) (fun k => rfl) ?_
  refine h0 _ hf hl dd.length 0 _ 0 (by omega) (by omega) (by simp) (by omega) (by omega) ?_
  rw [List.drop_zero]
  generalize layD true dd 0 (List.replicate dd.length 0) 0 = a at *
  obtain ⟨ys, e⟩ := a
  simp only [List.length_replicate] at hb hn
  simp only
  obtain ⟨b1, b2, b3, b4, b5⟩ := up_facts (e := e) (al := 16) (by omega) (by omega) (by omega) (by omega)
  refine Evt.step (h := fun k => spliceref12_Plan.l3 k 1 ds dd en xs ys w e 0) (fun k => ?_) ?_
  · simp only [spliceref12_Plan.l2]
    rw [if_pos (by omega), if_pos (by omega)]
    rfl
  refine ref_l3 ds dd en xs ys w 0 _ _ e (by omega) (by omega) rfl ?_
  refine Evt.step (h := fun k => spliceref12_Plan.l4 k 1 ((0 : Nat) : Int) ds dd en xs ys w (upZ e 16) (upZ e 16)) (fun k => rfl) ?_
  refine ref_l4 ds dd en xs w (upZ e 16) 1 false (Or.inr ⟨rfl, rfl⟩) _ hf hl dd.length 0 ys (upZ e 16) (by omega) (by omega) hn (by omega) (by omega) ?_
  rw [List.drop_zero]
  generalize layD false dd 0 ys (upZ e 16) = a at *
  obtain ⟨zs, e2⟩ := a
  refine Evt.of fun k => ?_
  simp only [spliceref12_Plan.l2]
  rw [if_neg (by omega)]
  by_cases h1 : w > 65536
  · rw [if_pos h1, if_pos h1]
  rw [if_neg h1, if_neg h1]
  by_cases h2 : e2 > 65536
  · rw [if_pos h2, if_pos h2]
  rw [if_neg h2, if_neg h2]
def resR (en : Int) (dd : List S39) : Option (List Int × Int) → R6
  | none => ([], [], 0, 0, 0, 1)
  | some (xs, w) => if okC en xs then fin dd xs w else ([], [], 0, 0, 0, 1)
/-- A place is -1 or none below nought. -/
def Pl (xs : List Int) : Prop := ∀ j : Int, 0 ≤ j → j < xs.length → rd xs j = -1 ∨ 0 ≤ rd xs j
theorem ref_l1 (ds : List S42) (dd : List S39) (en : Int) (os : List Int) (hs : Small ds) (ho : os.length ≤ 400) (hf : Fine dd) (hl' : dd.length ≤ 300) (d : Nat) : ∀ (i : Nat) (xs : List Int) (w : Int), i ≤ os.length → os.length - i = d → xs.length = ds.length → Pl xs → 0 ≤ w → w + d * 70000 ≤ 30000000 →
    Evt (fun k => spliceref12_Plan.l1 k os i ds dd en xs (List.replicate dd.length 0) w 0 0) (resR en dd (cL ds (os.drop i) xs w)) := by
  induction d with
  | zero =>
    intro i xs w hi hd hl hp hw hb
    have : os.drop i = [] := List.drop_of_length_le (by omega)
    rw [this]
    simp only [cL, resR]
    by_cases h1 : en < 0
    · rw [if_neg (by unfold okC; omega)]
      refine Evt.step (h := fun k => spliceref12_Plan.j2 k true ds dd en xs (List.replicate dd.length 0) w 0 0) (fun k => ?_) (Evt.of fun k => by simp only [spliceref12_Plan.j2]; rfl)
      simp only [spliceref12_Plan.l1]
      rw [if_neg (by omega), if_pos h1]
    by_cases h2 : en ≥ (ds.length : Int)
    · rw [if_neg (by unfold okC; omega)]
      refine Evt.step (h := fun k => spliceref12_Plan.j2 k true ds dd en xs (List.replicate dd.length 0) w 0 0) (fun k => ?_) (Evt.of fun k => by simp only [spliceref12_Plan.j2]; rfl)
      simp only [spliceref12_Plan.l1]
      rw [if_neg (by omega), if_neg h1, if_pos h2]
    have hj : ∀ k, spliceref12_Plan.l1 (k + 1) os i ds dd en xs (List.replicate dd.length 0) w 0 0 = spliceref12_Plan.j2 k (rd xs en == (-1)) ds dd en xs (List.replicate dd.length 0) w 0 0 := by
      intro k
      simp only [spliceref12_Plan.l1]
      rw [if_neg (by omega), if_neg h1, if_neg h2, if_pos (by omega), if_pos (by omega)]
    by_cases h3 : rd xs en = -1
    · rw [if_neg (by unfold okC; omega)]
      refine Evt.step hj (Evt.of fun k => ?_)
      rw [h3]
      simp only [spliceref12_Plan.j2]
      rfl
    · have := hp en (by omega) (by omega)
      rw [if_pos (by unfold okC; omega)]
      refine Evt.step hj (Evt.step (fun k => ?_) (ref_l2 ds dd en xs w hf hl'))
      rw [show (rd xs en == (-1)) = false from by simpa using h3]
      simp only [spliceref12_Plan.j2]
      rfl
  | succ d ih =>
    intro i xs w hi hd hl hp hw hb
    have hlt : i < os.length := by omega
    rw [cL_drop ds os xs w i hlt]
    generalize hf : rd os (i : Int) = f
    by_cases h1 : f < 0
    · rw [if_pos (Or.inl h1)]
      refine Evt.of fun k => ?_
      simp only [spliceref12_Plan.l1]
      rw [if_pos (by omega), if_pos (by omega), hf, if_pos h1]
      rfl
    by_cases h2 : (ds.length : Int) ≤ f
    · rw [if_pos (Or.inr (Or.inl h2))]
      refine Evt.of fun k => ?_
      simp only [spliceref12_Plan.l1]
      rw [if_pos (by omega), if_pos (by omega), hf, if_neg h1, if_pos (by omega)]
      rfl
    have := hp f (by omega) (by omega)
    by_cases h3 : 0 ≤ rd xs f
    · rw [if_pos (Or.inr (Or.inr h3))]
      refine Evt.of fun k => ?_
      simp only [spliceref12_Plan.l1]
      rw [if_pos (by omega), if_pos (by omega), hf, if_neg h1, if_neg (by omega), if_pos (by omega), if_pos (by omega), if_neg (by omega)]
      rfl
    · rw [if_neg (by omega)]
      have hc := hs f
      refine Evt.step (fun k => ?_) (ih (i + 1) (xs.set f.toNat w) (w + ((rd_T42 ds f).f3.length : Int)) (by omega) (by omega) (by rw [List.length_set]; exact hl) ?_ (by omega) (by omega))
      · simp only [spliceref12_Plan.l1]
        rw [if_pos (by omega), if_pos (by omega), hf, if_neg h1, if_neg (by omega), if_pos (by omega), if_pos (by omega), if_pos (by omega), if_pos (by omega), w64 (by omega) (by omega), w64 (by omega) (by omega)]
        rfl
      · intro j hj0 hj1
        rw [List.length_set] at hj1
        rw [rd_set (by omega) hj0 (by omega)]
        split
        · omega
        · exact hp j hj0 hj1
theorem ref_l0 (ds : List S42) (dd : List S39) (en : Int) (os zs ys : List Int) (r : R6) (hz : zs.length = ds.length) (hz' : ds.length < 1000000) (H : Evt (fun k => spliceref12_Plan.l1 k os 0 ds dd en (List.replicate ds.length (-1)) ys 0 0 0) r) (d : Nat) : ∀ (i : Nat), i ≤ zs.length → zs.length - i = d →
    Evt (fun k => spliceref12_Plan.l0 k os i ds dd en (filled zs i) ys 0 0 0) r := by
  induction d with
  | zero =>
    intro i hi hd
    obtain rfl : i = zs.length := by omega
    refine Evt.step (fun k => ?_) H
    simp only [spliceref12_Plan.l0]
    rw [if_neg (by omega), filled_all, hz]
  | succ d ih =>
    intro i hi hd
    refine Evt.step (fun k => ?_) (ih (i + 1) (by omega) (by omega))
    simp only [spliceref12_Plan.l0]
    rw [if_pos (by omega), if_pos (by omega), if_pos (by rw [filled_len hi]; omega), w64 (by omega) (by omega), Int.toNat_natCast, filled_succ (by omega)]
    rfl
/-- The plan, in plain Lean. -/
def planS (ds : List S42) (dd : List S39) (en : Int) (os : List Int) : R6 := resR en dd (cL ds os (List.replicate ds.length (-1)) 0)
theorem ref_eq (ds : List S42) (dd : List S39) (en : Int) (os : List Int) (hs : Small ds) (ho : os.length ≤ 400) (hd : ds.length ≤ 300) (hf : Fine dd) (hl : dd.length ≤ 300) :
    Evt (fun k => spliceref12_Plan.f k ds dd en os) (planS ds dd en os) := by
  have h1 := ref_l1 ds dd en os hs ho hf hl os.length 0 (List.replicate ds.length (-1)) 0 (by omega) (by omega) (by simp) ?_ (by omega) (by omega)
  · have h2 := ref_l0 ds dd en os (List.replicate ds.length 0) (List.replicate dd.length 0) (planS ds dd en os) (by simp) (by omega) h1 ds.length 0 (by omega) (by simp)
    refine Evt.congr (fun k => ?_) h2
    show spliceref12_Plan.f k ds dd en os = _
    unfold spliceref12_Plan.f
    rw [if_pos (by omega), if_pos (by omega), if_pos (by omega), if_pos (by omega), Int.toNat_natCast, Int.toNat_natCast]
    rfl
  · intro j h0 h1
    left
    unfold rd
    rw [List.length_replicate] at h1
    rw [List.getD_eq_getElem?_getD, List.getElem?_replicate, if_pos (by omega)]
    rfl
theorem plan_eq (ds : List S42) (dd : List S39) (en : Int) (os : List Int) (hs : Small ds) (ho : os.length ≤ 400) (hd : ds.length ≤ 300) (hl : dd.length ≤ 300) :
    Evt (fun k => place_Plan.f k ds dd en os) (planS ds dd en os) := by
  refine Evt.bind (codes_eq ds dd en os hs ho hd) ?_
  unfold planS
  generalize cL ds os (List.replicate ds.length (-1)) 0 = c
  rcases c with _ | ⟨xs, w⟩
  · refine Evt.of fun k => ?_
    simp only [resC, resR]
    rfl
  · refine Evt.of fun k => ?_
    by_cases h : okC en xs
    · have e : (resC en (some (xs, w))).2.2 = true := decide_eq_true h
      show (if (resC en (some (xs, w))).2.2 = true then _ else _) = _
      rw [if_pos e]
      simp only [resC, resR]
      rw [if_pos h]
      unfold place_datas.f fin
      rw [if_pos (by omega), Option.bind_some]
      simp only
      split
      · rfl
      · split
        · rfl
        · rfl
    · have e : ¬ (resC en (some (xs, w))).2.2 = true := by
        simp only [resC]
        simpa using h
      show (if (resC en (some (xs, w))).2.2 = true then _ else _) = _
      rw [if_neg e]
      simp only [resR]
      rw [if_neg h]
end Go.Proofs.Ytddggnfbplekhaa.Place
