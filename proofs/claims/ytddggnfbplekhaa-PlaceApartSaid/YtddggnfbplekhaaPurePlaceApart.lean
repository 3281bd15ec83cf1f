/- PlaceApart, in plain numbers. Own work; a template. -/
import Derived.Test.YtddggnfbplekhaaPlaceLaws
namespace Go.Proofs.Ytddggnfbplekhaa.Pure
open Go.RowKit Go.Proofs.Ytddggnfbplekhaa.Q Go.Proofs.YtddggnfbplekhaaW.PrintWords Go.Proofs.YtddggnfbplekhaaW.PrintLast Go.Proofs.YtddggnfbplekhaaW.PrintMore Go.Proofs.Ytddggnfbplekhaa.Place
set_option linter.unusedVariables false
/-! ## the data -/
theorem layD_spec (fx : Bool) (dd : List S39) (hf : Fine dd) (d : Nat) : ∀ (i : Nat) (xs : List Int) (e : Int), i ≤ dd.length → dd.length - i = d → xs.length = dd.length → 0 ≤ e → e + d * 4111 ≤ 100000000 →
    (∀ j : Nat, j < i → rd (layD fx (dd.drop i) i xs e).1 j = rd xs j) ∧
    (∀ j : Nat, j < dd.length → ¬ (rd_T39 dd j).f1 = fx → rd (layD fx (dd.drop i) i xs e).1 j = rd xs j) ∧
    (∀ j : Nat, i ≤ j → j < dd.length → (rd_T39 dd j).f1 = fx → e ≤ rd (layD fx (dd.drop i) i xs e).1 j ∧ rd (layD fx (dd.drop i) i xs e).1 j % (rd_T39 dd j).f0 = 0 ∧ rd (layD fx (dd.drop i) i xs e).1 j + (rd_T39 dd j).f2 ≤ (layD fx (dd.drop i) i xs e).2) ∧
    (∀ j j' : Nat, i ≤ j → j < j' → j' < dd.length → (rd_T39 dd j).f1 = fx → (rd_T39 dd j').f1 = fx → rd (layD fx (dd.drop i) i xs e).1 j + (rd_T39 dd j).f2 ≤ rd (layD fx (dd.drop i) i xs e).1 j') := by
  induction d with
  | zero =>
    intro i xs e hi hd hx h0 h1
    rw [List.drop_of_length_le (by omega)]
    simp only [layD]
    exact ⟨fun _ _ => trivial, fun _ _ _ => trivial, fun j a b => by omega, fun j j' a b c => by omega⟩
  | succ d ih =>
    intro i xs e hi hd hx h0 h1
    rw [layD_dr fx dd i (by omega)]
    obtain ⟨a1, a2, a3, a4⟩ := hf i (by omega)
    by_cases hk : (rd_T39 dd i).f1 = fx
    · rw [if_pos hk]
      obtain ⟨b1, b2, b3, _⟩ := up_facts h0 (by omega) a1 a2
      rw [w64 (by omega) (by omega)]
      have hb := layD_bound fx dd hf d (i + 1) (xs.set i (upZ e (rd_T39 dd i).f0)) (upZ e (rd_T39 dd i).f0 + (rd_T39 dd i).f2) (by omega) (by omega) (by omega) (by omega)
      obtain ⟨c1, c2, c3, c4⟩ := ih (i + 1) (xs.set i (upZ e (rd_T39 dd i).f0)) (upZ e (rd_T39 dd i).f0 + (rd_T39 dd i).f2) (by omega) (by omega) (by rw [List.length_set]; exact hx) (by omega) (by omega)
      have hs : ∀ j : Nat, rd (xs.set i (upZ e (rd_T39 dd i).f0)) j = if j = i then upZ e (rd_T39 dd i).f0 else rd xs j := by
        intro j
        have := rd_set (xs := xs) (f := (i : Int)) (j := (j : Int)) (v := upZ e (rd_T39 dd i).f0) (by omega) (by omega) (by omega)
        rw [Int.toNat_natCast] at this
        rw [this]
        by_cases h : j = i
        · rw [if_pos h, if_pos (by omega)]
        · rw [if_neg h, if_neg (by omega)]
      have hi' := (c1 i (by omega)).trans ((hs i).trans (if_pos rfl))
      refine ⟨fun j hj => ?_, fun j hj hn => ?_, fun j hj hj' hn => ?_, fun j j' hj hjj hj' hn hn' => ?_⟩
      · rw [c1 j (by omega), hs, if_neg (by omega)]
      · rw [c2 j hj hn, hs, if_neg (fun h => hn (by rw [h]; exact hk))]
      · by_cases h : j = i
        · subst h
          rw [hi']
          exact ⟨b1, b3, hb.1⟩
        · obtain ⟨q1, q2, q3⟩ := c3 j (by omega) hj' hn
          exact ⟨by omega, q2, q3⟩
      · by_cases h : j = i
        · subst h
          rw [hi']
          exact (c3 j' (by omega) hj' hn').1
        · exact c4 j j' (by omega) hjj hj' hn hn'
    · rw [if_neg hk]
      obtain ⟨c1, c2, c3, c4⟩ := ih (i + 1) xs e (by omega) (by omega) hx (by omega) (by omega)
      refine ⟨fun j hj => c1 j (by omega), c2, fun j hj hj' hn => ?_, fun j j' hj hjj hj' hn hn' => ?_⟩
      · by_cases h : j = i
        · subst h
          exact absurd hn hk
        · exact c3 j (by omega) hj' hn
      · by_cases h : j = i
        · subst h
          exact absurd hn hk
        · exact c4 j j' (by omega) hjj hj' hn hn'
structure DApart (dd : List S39) (ys : List Int) (bytes wr : Int) : Prop where
  len : ys.length = dd.length
  one : ∀ i : Nat, i < dd.length → 0 ≤ rd ys i ∧ rd ys i % (rd_T39 dd i).f0 = 0 ∧ rd ys i + (rd_T39 dd i).f2 ≤ bytes ∧ ((rd_T39 dd i).f1 = true → rd ys i + (rd_T39 dd i).f2 ≤ wr) ∧ ((rd_T39 dd i).f1 = false → wr ≤ rd ys i)
  two : ∀ j i : Nat, j < i → i < dd.length → rd ys j + (rd_T39 dd j).f2 ≤ rd ys i ∨ rd ys i + (rd_T39 dd i).f2 ≤ rd ys j
  small : bytes ≤ 65536
theorem dapart (dd : List S39) (hf : Fine dd) (hl : dd.length ≤ 300) : 
    let r := layD true dd 0 (List.replicate dd.length 0) 0
    let q := layD false dd 0 r.1 (upZ r.2 16)
    q.2 ≤ 65536 → DApart dd q.1 q.2 (upZ r.2 16) ∧ upZ r.2 16 % 16 = 0 ∧ 0 ≤ upZ r.2 16 := by
  intro r q hs
  have s1 := layD_spec true dd hf dd.length 0 (List.replicate dd.length 0) 0 (by omega) (by omega) (by simp) (by omega) (by omega)
  have t1 := layD_bound true dd hf dd.length 0 (List.replicate dd.length 0) 0 (by omega) (by omega) (by omega) (by omega)
  rw [List.drop_zero] at s1 t1
  have hrl : r.1.length = dd.length := by
    show (layD true dd 0 (List.replicate dd.length 0) 0).1.length = _
    rw [layD_len, List.length_replicate]
  change _ ∧ (∀ j : Nat, j < dd.length → _ → rd r.1 j = _) ∧ _ at s1
  change 0 ≤ r.2 ∧ r.2 ≤ _ at t1
  obtain ⟨b1, b2, b3, _⟩ := up_facts (e := r.2) (al := 16) (by omega) (by omega) (by omega) (by omega)
  have s2 := layD_spec false dd hf dd.length 0 r.1 (upZ r.2 16) (by omega) (by omega) hrl (by omega) (by omega)
  have t2 := layD_bound false dd hf dd.length 0 r.1 (upZ r.2 16) (by omega) (by omega) (by omega) (by omega)
  rw [List.drop_zero] at s2 t2
  have hql : q.1.length = dd.length := by
    show (layD false dd 0 r.1 (upZ r.2 16)).1.length = _
    rw [layD_len, hrl]
  obtain ⟨_, u1, u2, u3⟩ := s1
  obtain ⟨_, v1, v2, v3⟩ := s2
  have F : ∀ i : Nat, i < dd.length → (rd_T39 dd i).f1 = true → 0 ≤ rd q.1 i ∧ rd q.1 i % (rd_T39 dd i).f0 = 0 ∧ rd q.1 i + (rd_T39 dd i).f2 ≤ upZ r.2 16 := by
    intro i hi hn
    have e : rd q.1 i = rd r.1 i := v1 i hi (by rw [hn]; decide)
    obtain ⟨p1, p2, p3⟩ := u2 i (by omega) hi hn
    rw [e]
    exact ⟨p1, p2, Int.le_trans p3 b1⟩
  have G : ∀ i : Nat, i < dd.length → (rd_T39 dd i).f1 = false → upZ r.2 16 ≤ rd q.1 i ∧ rd q.1 i % (rd_T39 dd i).f0 = 0 ∧ rd q.1 i + (rd_T39 dd i).f2 ≤ q.2 := fun i hi hn => v2 i (by omega) hi hn
  have t2' : upZ r.2 16 ≤ q.2 := t2.1
  refine ⟨⟨hql, fun i hi => ?_, fun j i hj hi => ?_, hs⟩, b3, by omega⟩
  · cases hn : (rd_T39 dd i).f1
    · obtain ⟨p1, p2, p3⟩ := G i hi hn
      exact ⟨by omega, p2, p3, (fun h => by cases h), (fun _ => p1)⟩
    · obtain ⟨p1, p2, p3⟩ := F i hi hn
      exact ⟨p1, p2, by omega, (fun _ => p3), (fun h => by cases h)⟩
  · cases hn : (rd_T39 dd i).f1 <;> cases hm : (rd_T39 dd j).f1
    · exact Or.inl (v3 j i (by omega) hj hi hm hn)
    · have := (F j (by omega) hm).2.2
      have := (G i hi hn).1
      exact Or.inl (by omega)
    · have := (F i hi hn).2.2
      have := (G j (by omega) hm).1
      exact Or.inr (by omega)
    · have e1 : rd q.1 i = rd r.1 i := v1 i hi (by rw [hn]; decide)
      have e2 : rd q.1 j = rd r.1 j := v1 j (by omega) (by rw [hm]; decide)
      rw [e1, e2]
      exact Or.inl (u3 j i (by omega) hj hi hm hn)
/-! ## the code -/
def lenF (ds : List S42) (j : Nat) : Int := ((rd_T42 ds j).f3.length : Int)
def sumC (ds : List S42) (xs : List Int) : Nat → Int
  | 0 => 0
  | n + 1 => sumC ds xs n + if 0 ≤ rd xs n then lenF ds n else 0
structure CApart (ds : List S42) (xs : List Int) (w : Int) : Prop where
  len : xs.length = ds.length
  one : ∀ i : Nat, i < ds.length → rd xs i = -1 ∨ 0 ≤ rd xs i ∧ rd xs i + lenF ds i ≤ w
  two : ∀ j i : Nat, j < i → i < ds.length → 0 ≤ rd xs j → 0 ≤ rd xs i → rd xs j + lenF ds j ≤ rd xs i ∨ rd xs i + lenF ds i ≤ rd xs j
  sum : sumC ds xs ds.length = w
theorem sumC_set (ds : List S42) (xs : List Int) (f : Nat) (v : Int) (hf : f < xs.length) (hv : 0 ≤ v) (hn : rd xs f < 0) (n : Nat) : sumC ds (xs.set f v) n = sumC ds xs n + if f < n then lenF ds f else 0 := by
  induction n with
  | zero => simp [sumC]
  | succ n ih =>
    have := rd_set (xs := xs) (f := (f : Int)) (j := (n : Int)) (v := v) (by omega) (by omega) (by omega)
    rw [Int.toNat_natCast] at this
    simp only [sumC]
    by_cases h : n = f
    · subst h
      rw [this.trans (if_pos rfl), ih, if_neg (show ¬ n < n by omega), if_pos hv, if_neg (show ¬ 0 ≤ rd xs (n : Int) by omega), if_pos (show n < n + 1 by omega)]
      try omega
    · rw [this.trans (if_neg (by omega)), ih]
      generalize (if 0 ≤ rd xs (n : Int) then lenF ds n else 0) = z
      by_cases h2 : f < n
      · rw [if_pos h2, if_pos (show f < n + 1 by omega)]
        omega
      · rw [if_neg h2, if_neg (show ¬ f < n + 1 by omega)]
        omega
theorem capart (ds : List S42) : ∀ (os xs : List Int) (w : Int) (ys : List Int) (v : Int), CApart ds xs w → 0 ≤ w → cL ds os xs w = some (ys, v) → CApart ds ys v
  | [], xs, w, ys, v, H, _, h => by
    simp only [cL, Option.some.injEq, Prod.mk.injEq] at h
    rw [← h.1, ← h.2]
    exact H
  | f :: fs, xs, w, ys, v, H, hw, h => by
    unfold cL at h
    split at h
    · cases h
    · rename_i hc
      have hl := H.len
      obtain ⟨g, rfl⟩ : ∃ g : Nat, f = (g : Int) := ⟨f.toNat, by omega⟩
      have hg : g < ds.length := by omega
      rw [Int.toNat_natCast] at h
      have hs : ∀ j : Nat, rd (xs.set g w) j = if j = g then w else rd xs j := by
        intro j
        have := rd_set (xs := xs) (f := (g : Int)) (j := (j : Int)) (v := w) (by omega) (by omega) (by omega)
        rw [Int.toNat_natCast] at this
        rw [this]
        by_cases h : j = g
        · rw [if_pos h, if_pos (by omega)]
        · rw [if_neg h, if_neg (by omega)]
      have h0 : ∀ j, 0 ≤ lenF ds j := fun j => by unfold lenF; omega
      refine capart ds fs _ _ ys v ⟨by rw [List.length_set]; exact hl, fun i hi => ?_, fun j i hj hi hp hq => ?_, ?_⟩ (by omega) h
      · rw [hs]
        have := h0 g
        split
        · rename_i e
          subst e
          exact Or.inr ⟨hw, by unfold lenF; omega⟩
        · rcases H.one i hi with h | h
          · exact Or.inl h
          · exact Or.inr ⟨h.1, by unfold lenF at *; omega⟩
      · rw [hs] at hp hq ⊢
        rw [hs]
        by_cases e : j = g
        · rw [if_pos e] at hp ⊢
          rw [if_neg (by omega)] at hq ⊢
          rcases H.one i hi with h | h
          · omega
          · exact Or.inr h.2
        · rw [if_neg e] at hp ⊢
          by_cases e2 : i = g
          · rw [if_pos e2]
            rcases H.one j (by omega) with h | h
            · omega
            · exact Or.inl h.2
          · rw [if_neg e2] at hq ⊢
            exact H.two j i hj hi hp hq
      · rw [sumC_set ds xs g w (by omega) hw (by omega), H.sum, if_pos hg]
        rfl
/-! ## the law's loops -/
theorem apart_l3 (ds : List S42) (dd : List S39) (en : Int) (xs ys : List Int) (w bytes wr : Int) (hs : Small ds) (hd : ds.length ≤ 300) (hw : w ≤ 65536) (H : CApart ds xs w) (i : Nat) (hi : i < ds.length) (hp : 0 ≤ rd xs i) (s : Int)
    (N : Evt (fun k => splicelaw12_PlaceApart.l2 k s ((i + 1 : Nat) : Int) ds dd en xs ys w bytes wr) true) (d : Nat) : ∀ (j : Nat), j ≤ i → i - j = d →
    Evt (fun k => splicelaw12_PlaceApart.l3 k s i (rd xs i) j ds dd en xs ys w bytes wr) true := by
  have hl := H.len
  induction d with
  | zero =>
    intro j hj hd
    refine Evt.step (fun k => ?_) N
    simp only [splicelaw12_PlaceApart.l3]
    rw [if_neg (by omega), w64 (by omega) (by omega)]
    rfl
  | succ d ih =>
    intro j hj hd
    refine Evt.step (fun k => ?_) (ih (j + 1) (by omega) (by omega))
    simp only [splicelaw12_PlaceApart.l3]
    rw [if_pos (by omega), if_pos (by omega), if_pos (by omega), w64 (x := (j : Int) + 1) (by omega) (by omega)]
    by_cases h1 : rd xs j ≥ 0
    · rw [if_pos h1, if_pos (by omega)]
      have hsj := hs j
      have hsi := hs i
      have b1 := (H.one j (by omega)).resolve_left (by omega)
      have b2 := (H.one i (by omega)).resolve_left (by omega)
      have h2 := H.two j i (by omega) hi h1 hp
      unfold lenF at b1 b2 h2
      rw [w64 (x := rd xs j + _) (by omega) (by omega)]
      by_cases h3 : rd xs i < rd xs j + ((rd_T42 ds (j : Int)).f3.length : Int)
      · rw [if_pos h3, if_pos (by omega), if_pos (by omega), w64 (x := rd xs i + _) (by omega) (by omega), if_neg (by omega)]
        rfl
      · rw [if_neg h3]
        rfl
    · rw [if_neg h1]
      rfl
theorem sum_le (ds : List S42) (xs : List Int) (hs : Small ds) (n : Nat) : 0 ≤ sumC ds xs n ∧ sumC ds xs n ≤ n * 70000 := by
  induction n with
  | zero => simp [sumC]
  | succ n ih =>
    have := hs n
    simp only [sumC]
    unfold lenF
    split <;> omega
theorem apart_l2 (ds : List S42) (dd : List S39) (en : Int) (xs ys : List Int) (w bytes wr : Int) (hs : Small ds) (hd : ds.length ≤ 300) (hw : w ≤ 65536) (H : CApart ds xs w) (h16 : wr % 16 = 0) (h0 : 0 ≤ wr) (d : Nat) : ∀ (i : Nat), i ≤ ds.length → ds.length - i = d →
    Evt (fun k => splicelaw12_PlaceApart.l2 k (sumC ds xs i) i ds dd en xs ys w bytes wr) true := by
  have hl := H.len
  induction d with
  | zero =>
    intro i hi hd
    obtain rfl : i = ds.length := by omega
    refine Evt.of fun k => ?_
    simp only [splicelaw12_PlaceApart.l2]
    rw [if_neg (by omega), if_pos H.sum, Int.tmod_eq_emod_of_nonneg h0, h16]
    rfl
  | succ d ih =>
    intro i hi hd
    have N := ih (i + 1) (by omega) (by omega)
    have hsi := hs i
    have hsum := sum_le ds xs hs i
    simp only [sumC] at N
    by_cases h1 : rd xs i < 0
    · rw [if_neg (by omega), Int.add_zero] at N
      refine Evt.step (fun k => ?_) N
      simp only [splicelaw12_PlaceApart.l2]
      rw [if_pos (by omega), if_pos (by omega), if_pos (by omega), if_pos h1, w64 (by omega) (by omega)]
      rfl
    · rw [if_pos (by omega)] at N
      refine Evt.step (fun k => ?_) (apart_l3 ds dd en xs ys w bytes wr hs (by omega) hw H i (by omega) (by omega) _ N i 0 (by omega) (by omega))
      simp only [splicelaw12_PlaceApart.l2]
      rw [if_pos (by omega), if_pos (by omega), if_pos (by omega), if_neg h1, w64 (by omega) (by omega)]
      rfl
theorem apart_l1 (ds : List S42) (dd : List S39) (en : Int) (xs ys : List Int) (w bytes wr : Int) (hf : Fine dd) (hd : dd.length ≤ 300) (H : DApart dd ys bytes wr) (i : Nat) (hi : i < dd.length)
    (N : Evt (fun k => splicelaw12_PlaceApart.l0 k ((i + 1 : Nat) : Int) ds dd en xs ys w bytes wr) true) (c0 : Int) (c1 : Bool) (c3 : List Int) (c4 : List S71) (d : Nat) : ∀ (j : Nat), j ≤ i → i - j = d →
    Evt (fun k => splicelaw12_PlaceApart.l1 k i (rd ys i) j ds dd en xs ys w bytes wr c0 c1 (rd_T39 dd i).f2 c3 c4) true := by
  have hl := H.len
  have hb := H.small
  induction d with
  | zero =>
    intro j hj hd
    refine Evt.step (fun k => ?_) N
    simp only [splicelaw12_PlaceApart.l1]
    rw [if_neg (by omega), w64 (by omega) (by omega)]
    rfl
  | succ d ih =>
    intro j hj hd
    refine Evt.step (fun k => ?_) (ih (j + 1) (by omega) (by omega))
    simp only [splicelaw12_PlaceApart.l1]
    have b1 := H.one j (by omega)
    have b2 := H.one i (by omega)
    have f1 := hf j (by omega)
    have f2 := hf i (by omega)
    have h2 := H.two j i (by omega) hi
    rw [if_pos (by omega), if_pos (by omega), if_pos (by omega), if_pos (by omega), w64 (x := (j : Int) + 1) (by omega) (by omega), w64 (x := rd ys j + _) (by omega) (by omega)]
    by_cases h3 : rd ys i < rd ys j + (rd_T39 dd (j : Int)).f2
    · rw [if_pos h3, w64 (x := rd ys i + _) (by omega) (by omega), if_neg (by omega)]
      rfl
    · rw [if_neg h3]
      rfl
theorem apart_l0 (ds : List S42) (dd : List S39) (en : Int) (xs ys : List Int) (w bytes wr : Int) (hf : Fine dd) (hd : dd.length ≤ 300) (H : DApart dd ys bytes wr)
    (N : Evt (fun k => splicelaw12_PlaceApart.l2 k 0 0 ds dd en xs ys w bytes wr) true) (d : Nat) : ∀ (i : Nat), i ≤ dd.length → dd.length - i = d →
    Evt (fun k => splicelaw12_PlaceApart.l0 k i ds dd en xs ys w bytes wr) true := by
  have hl := H.len
  have hb := H.small
  induction d with
  | zero =>
    intro i hi hd
    refine Evt.step (fun k => ?_) N
    simp only [splicelaw12_PlaceApart.l0]
    rw [if_neg (by omega)]
  | succ d ih =>
    intro i hi hd
    have M := apart_l1 ds dd en xs ys w bytes wr hf (by omega) H i (by omega) (ih (i + 1) (by omega) (by omega)) (rd_T39 dd i).f0 (rd_T39 dd i).f1 (rd_T39 dd i).f3 (rd_T39 dd i).f4 i 0 (by omega) (by omega)
    obtain ⟨p1, p2, p3, p4, p5⟩ := H.one i (by omega)
    have f2 := hf i (by omega)
    refine Evt.step (h := fun k => splicelaw12_PlaceApart.j2 k i (rd ys i) false ds dd en xs ys w bytes wr (rd_T39 dd i).f0 (rd_T39 dd i).f1 (rd_T39 dd i).f2 (rd_T39 dd i).f3 (rd_T39 dd i).f4) (fun k => ?_) (Evt.step (fun k => ?_) M)
    · simp only [splicelaw12_PlaceApart.l0]
      rw [if_pos (by omega), if_pos (by omega), if_pos (by omega), if_neg (by omega), if_neg (by omega), Int.tmod_eq_emod_of_nonneg p1, if_pos p2, w64 (x := rd ys i + _) (by omega) (by omega), if_neg (by omega)]
      cases hn : (rd_T39 dd (i : Int)).f1
      · have := p5 hn
        rw [if_neg (by decide), if_neg (by decide), decide_eq_false (by omega)]
      · have := p4 hn
        rw [if_pos rfl, if_neg (by omega), if_pos rfl]
    · simp only [splicelaw12_PlaceApart.j2]
      rw [if_neg (by decide)]
      rfl
theorem apart_j0 (ds : List S42) (dd : List S39) (en : Int) (os : List Int) (b : Bool) (h : b = false → Fit ds dd ∧ os.length ≤ 400) : Evt (fun k => splicelaw12_PlaceApart.j0 k os b ds dd en) true := by
  cases b with
  | true =>
    refine Evt.step (h := fun k => (splicelaw12_awake.f k).bind fun t => some t) (fun k => ?_) (Evt.bind awake12 (Evt.of fun k => rfl))
    simp only [splicelaw12_PlaceApart.j0]
    rfl
  | false =>
    obtain ⟨hf, ho⟩ := h rfl
    refine Evt.step (fun k => by simp only [splicelaw12_PlaceApart.j0]; exact if_neg (by decide)) ?_
    refine Evt.bind (plan_eq ds dd en os hf.small ho hf.lens hf.lend) ?_
    generalize hr : planS ds dd en os = r
    unfold planS at hr
    have hc : ∀ ys v, cL ds os (List.replicate ds.length (-1)) 0 = some (ys, v) → CApart ds ys v := by
      intro ys v e
      refine capart ds os _ 0 ys v ⟨by simp, fun i hi => Or.inl ?_, fun j i hj hi hp hq => ?_, ?_⟩ (by omega) e
      · unfold rd
        rw [Int.toNat_natCast, List.getD_eq_getElem?_getD, List.getElem?_replicate, if_pos hi]
        rfl
      · unfold rd at hp
        rw [Int.toNat_natCast, List.getD_eq_getElem?_getD, List.getElem?_replicate, if_pos (by omega)] at hp
        simp at hp
      · have : ∀ n, n ≤ ds.length → sumC ds (List.replicate ds.length (-1)) n = 0 := by
          intro n
          induction n with
          | zero => intro _; rfl
          | succ n ih =>
            intro hn
            simp only [sumC]
            rw [ih (by omega), if_neg]
            · rfl
            · unfold rd
              rw [Int.toNat_natCast, List.getD_eq_getElem?_getD, List.getElem?_replicate, if_pos (by omega)]
              decide
        exact this _ (by omega)
    generalize cL ds os (List.replicate ds.length (-1)) 0 = c at *
    rcases c with _ | ⟨xs, w⟩
    · subst hr
      exact Evt.of fun k => rfl
    · have H := hc xs w rfl
      simp only [resR] at hr
      by_cases hk : okC en xs
      · rw [if_pos hk] at hr
        unfold fin at hr
        simp only at hr
        by_cases h1 : w > 65536
        · rw [if_pos h1] at hr
          subst hr
          exact Evt.of fun k => rfl
        rw [if_neg h1] at hr
        by_cases h2 : (layD false dd 0 (layD true dd 0 (List.replicate dd.length 0) 0).1 (upZ (layD true dd 0 (List.replicate dd.length 0) 0).2 16)).2 > 65536
        · rw [if_pos h2] at hr
          subst hr
          exact Evt.of fun k => rfl
        rw [if_neg h2] at hr
        obtain ⟨D, d1, d2⟩ := dapart dd hf.fine hf.lend (by omega)
        subst hr
        refine Evt.congr (fun k => if_pos rfl) ?_
        refine apart_l0 ds dd en xs _ w _ _ hf.fine hf.lend D ?_ dd.length 0 (by omega) (by omega)
        exact apart_l2 ds dd en xs _ w _ _ hf.small hf.lens (by omega) H d1 d2 ds.length 0 (by omega) (by omega)
      · rw [if_neg hk] at hr
        subst hr
        exact Evt.of fun k => rfl
theorem PlaceApart : splicelaw12_PlaceApart.Pure := by
  intro p os hp ho
  refine Evt.out ?_
  refine Evt.bind awake12 ?_
  refine Evt.congr (fun k => if_pos rfl) ?_
  obtain ⟨b, hb, hb'⟩ := may_eq p.f0 p.f1 p.f2
  refine Evt.bind hb ?_
  cases b with
  | true =>
    refine Evt.congr (fun k => if_pos rfl) ?_
    refine apart_j0 _ _ _ _ _ fun h => ⟨hb' rfl, ?_⟩
    have := of_decide_eq_false h
    omega
  | false =>
    refine Evt.congr (fun k => if_neg (by decide)) ?_
    exact apart_j0 _ _ _ _ _ fun h => by cases h
end Go.Proofs.Ytddggnfbplekhaa.Pure
