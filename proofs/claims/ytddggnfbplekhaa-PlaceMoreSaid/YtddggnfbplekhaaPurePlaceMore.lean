/- PlaceMore, in plain numbers. Own work; a template. -/
import Derived.Test.YtddggnfbplekhaaPlaceLaws
import Derived.Test.YtddggnfbplekhaaPurePlaceOrders
namespace Go.Proofs.Ytddggnfbplekhaa.Pure
open Go.RowKit Go.Proofs.Ytddggnfbplekhaa.Q Go.Proofs.YtddggnfbplekhaaW.PrintWords Go.Proofs.YtddggnfbplekhaaW.PrintLast Go.Proofs.YtddggnfbplekhaaW.PrintMore Go.Proofs.Ytddggnfbplekhaa.Place
set_option linter.unusedVariables false
theorem layD_snoc (fx : Bool) (n : S39) : ∀ (ds : List S39) (i : Nat) (xs : List Int) (e : Int), layD fx (ds ++ [n]) i xs e = layD fx [n] (i + ds.length) (layD fx ds i xs e).1 (layD fx ds i xs e).2
  | [], i, xs, e => rfl
  | d :: ds, i, xs, e => by
    have h : ∀ ys f, layD fx (ds ++ [n]) (i + 1) ys f = layD fx [n] (i + (ds.length + 1)) (layD fx ds (i + 1) ys f).1 (layD fx ds (i + 1) ys f).2 := fun ys f => by
      rw [layD_snoc fx n ds (i + 1) ys f, show i + 1 + ds.length = i + (ds.length + 1) by omega]
    simp only [List.cons_append, List.length_cons]
    rw [show layD fx (d :: (ds ++ [n])) i xs e = if d.f1 = fx then layD fx (ds ++ [n]) (i + 1) (xs.set i (upZ e d.f0)) (wrap64 (upZ e d.f0 + d.f2)) else layD fx (ds ++ [n]) (i + 1) xs e from rfl,
      show layD fx (d :: ds) i xs e = if d.f1 = fx then layD fx ds (i + 1) (xs.set i (upZ e d.f0)) (wrap64 (upZ e d.f0 + d.f2)) else layD fx ds (i + 1) xs e from rfl]
    by_cases hd : d.f1 = fx
    · rw [if_pos hd, if_pos hd]; exact h _ _
    · rw [if_neg hd, if_neg hd]; exact h _ _
theorem layD_pad (fx : Bool) (zs : List Int) : ∀ (ds : List S39) (i : Nat) (xs : List Int) (e : Int), i + ds.length ≤ xs.length → layD fx ds i (xs ++ zs) e = ((layD fx ds i xs e).1 ++ zs, (layD fx ds i xs e).2)
  | [], i, xs, e, _ => rfl
  | d :: ds, i, xs, e, h => by
    simp only [List.length_cons] at h
    rw [show layD fx (d :: ds) i (xs ++ zs) e = if d.f1 = fx then layD fx ds (i + 1) ((xs ++ zs).set i (upZ e d.f0)) (wrap64 (upZ e d.f0 + d.f2)) else layD fx ds (i + 1) (xs ++ zs) e from rfl,
      show layD fx (d :: ds) i xs e = if d.f1 = fx then layD fx ds (i + 1) (xs.set i (upZ e d.f0)) (wrap64 (upZ e d.f0 + d.f2)) else layD fx ds (i + 1) xs e from rfl]
    by_cases hd : d.f1 = fx
    · rw [if_pos hd, if_pos hd, List.set_append_left _ _ (by omega)]
      exact layD_pad fx zs ds (i + 1) _ _ (by rw [List.length_set]; omega)
    · rw [if_neg hd, if_neg hd]
      exact layD_pad fx zs ds (i + 1) _ _ (by omega)
theorem plan_eq1 (ds : List S42) (dd : List S39) (en : Int) (os : List Int) (hs : Small ds) (ho : os.length ≤ 400) (hd : ds.length ≤ 300) (hl : dd.length ≤ 301) :
    Evt (fun k => place_Plan.f k ds dd en os) (planS ds dd en os) := by
  refine Evt.bind (codes_eq ds dd en os hs ho hd) ?_
  unfold planS
  generalize cL ds os (List.replicate ds.length (-1)) 0 = c
  rcases c with _ | ⟨xs, w⟩
  · refine Evt.of fun k => ?_
    simp only [resC, resR]
    rfl
  · refine Evt.of fun k => ?_
    by_cases h : okC en xs
    · have e : (resC en (some (xs, w))).2.2 = true := decide_eq_true h
      show (if (resC en (some (xs, w))).2.2 = true then _ else _) = _
      rw [if_pos e]
      simp only [resC, resR]
      rw [if_pos h]
      unfold place_datas.f fin
      rw [if_pos (by omega), Option.bind_some]
      simp only
      split
      · rfl
      · split
        · rfl
        · rfl
    · have e : ¬ (resC en (some (xs, w))).2.2 = true := by
        simp only [resC]
        simpa using h
      show (if (resC en (some (xs, w))).2.2 = true then _ else _) = _
      rw [if_neg e]
      simp only [resR]
      rw [if_neg h]
/-- The data that are laid behind all others. -/
def newD (a u : Int) : S39 := ⟨rd [1, 2, 4, 8, 16] (Int.tmod u 5), false, wrap64 (1 + (wrap64 (a))), [], []⟩
theorem newD_al (a u : Int) (h : 0 ≤ u) : 1 ≤ (newD a u).f0 ∧ (newD a u).f0 ≤ 16 := by
  have h1 := Int.emod_nonneg u (b := 5) (by omega)
  have h2 := Int.emod_lt_of_pos u (b := 5) (by omega)
  have : u % 5 = 0 ∨ u % 5 = 1 ∨ u % 5 = 2 ∨ u % 5 = 3 ∨ u % 5 = 4 := by omega
  show 1 ≤ rd [1, 2, 4, 8, 16] (Int.tmod u 5) ∧ rd [1, 2, 4, 8, 16] (Int.tmod u 5) ≤ 16
  rw [Int.tmod_eq_emod_of_nonneg h]
  rcases this with e | e | e | e | e <;> rw [e] <;> decide
theorem newD_size (a u : Int) (h : 0 ≤ a ∧ a ≤ 255) : (newD a u).f2 = 1 + a := by
  show wrap64 (1 + (wrap64 (a))) = _
  rw [w64 (x := a) (by omega) (by omega), w64 (by omega) (by omega)]
/-- The data's plan with one more behind. -/
theorem fin_more (dd : List S39) (hf : Fine dd) (hl : dd.length ≤ 300) (a u : Int) (ha : 0 ≤ a ∧ a ≤ 255) (hu : 0 ≤ u) (xs : List Int) (w : Int) :
    ∃ (q : List Int) (e wr v : Int), q.length = dd.length ∧ 0 ≤ e ∧ e ≤ 100000000 ∧ e ≤ v ∧ v ≤ e + 15 ∧
      fin dd xs w = (if w > 65536 then ([], [], 0, 0, 0, 8) else if e > 65536 then ([], [], 0, 0, 0, 8) else (xs, q, w, e, wr, 0)) ∧
      fin (dd ++ [newD a u]) xs w = (if w > 65536 then ([], [], 0, 0, 0, 8) else if v + (1 + a) > 65536 then ([], [], 0, 0, 0, 8) else (xs, q ++ [v], w, v + (1 + a), wr, 0)) := by
  have b1 := layD_bound true dd hf dd.length 0 (List.replicate dd.length 0) 0 (by omega) (by omega) (by omega) (by omega)
  have n1 := layD_len true dd 0 (List.replicate dd.length 0) 0
  have p1 := layD_pad true [0] dd 0 (List.replicate dd.length 0) 0 (by simp)
  rw [List.drop_zero] at b1
  have r1 : List.replicate (dd ++ [newD a u]).length (0 : Int) = List.replicate dd.length 0 ++ [0] := by
    rw [List.length_append, List.length_singleton, List.replicate_succ']
  have s1 : layD true (dd ++ [newD a u]) 0 (List.replicate (dd ++ [newD a u]).length 0) 0 = ((layD true dd 0 (List.replicate dd.length 0) 0).1 ++ [0], (layD true dd 0 (List.replicate dd.length 0) 0).2) := by
    rw [layD_snoc, r1, p1]
    rfl
  generalize hA : layD true dd 0 (List.replicate dd.length 0) 0 = A at *
  obtain ⟨A1, A2⟩ := A
  simp only [List.length_replicate] at b1 n1 s1
  obtain ⟨u1, u2, _⟩ := up_facts (e := A2) (al := 16) (by omega) (by omega) (by omega) (by omega)
  have b2 := layD_bound false dd hf dd.length 0 A1 (upZ A2 16) (by omega) (by omega) (by omega) (by omega)
  have n2 := layD_len false dd 0 A1 (upZ A2 16)
  have p2 := layD_pad false [0] dd 0 A1 (upZ A2 16) (by omega)
  rw [List.drop_zero] at b2
  have s2 : layD false (dd ++ [newD a u]) 0 (A1 ++ [0]) (upZ A2 16) = layD false [newD a u] (0 + dd.length) ((layD false dd 0 A1 (upZ A2 16)).1 ++ [0]) (layD false dd 0 A1 (upZ A2 16)).2 := by
    rw [layD_snoc, p2]
  generalize hB : layD false dd 0 A1 (upZ A2 16) = B at *
  obtain ⟨B1, B2⟩ := B
  simp only at b2 n2 s2
  obtain ⟨al1, al2⟩ := newD_al a u hu
  obtain ⟨v1, v2, _⟩ := up_facts (e := B2) (al := (newD a u).f0) (by omega) (by omega) al1 al2
  have s3 : layD false [newD a u] (0 + dd.length) (B1 ++ [0]) B2 = (B1 ++ [upZ B2 (newD a u).f0], upZ B2 (newD a u).f0 + (1 + a)) := by
    show ((B1 ++ [0]).set (0 + dd.length) (upZ B2 (newD a u).f0), wrap64 (upZ B2 (newD a u).f0 + (newD a u).f2)) = _
    rw [newD_size a u ha, w64 (by omega) (by omega), List.set_append_right _ _ (by omega), show 0 + dd.length - B1.length = 0 by omega]
    rfl
  refine ⟨B1, B2, upZ A2 16, upZ B2 (newD a u).f0, by omega, by omega, by omega, v1, v2, ?_, ?_⟩
  · unfold fin
    simp only [hA, hB]
  · unfold fin
    simp only [s1, s2, s3]
theorem more_j1 (ds : List S42) (dd : List S39) (en a x9 x11 : Int) (p1 p2 : List Int) (p3 p4 p5 : Int) (q1 q2 : List Int) (q3 q4 q5 : Int) (h : (x9 = 0 → x11 = 8)) :
    Evt (fun k => splicelaw12_PlaceMore.j1 k a x9 x11 true ds dd en p1 p2 p3 p4 p5 q1 q2 q3 q4 q5) true := by
  refine Evt.of fun k => ?_
  simp only [splicelaw12_PlaceMore.j1]
  rw [if_pos trivial]
  by_cases h9 : x9 = 0
  · rw [if_pos h9, h h9]
    rfl
  · rw [if_neg h9]
theorem more_j0 (ds : List S42) (dd : List S39) (en a u : Int) (ha : 0 ≤ a ∧ a ≤ 255) (hu : 0 ≤ u ∧ u ≤ 255) (b : Bool) (h : b = false → Fit ds dd ∧ ds.length ≠ 0) : Evt (fun k => splicelaw12_PlaceMore.j0 k a u b ds dd en) true := by
  cases b with
  | true =>
    refine Evt.step (h := fun k => (splicelaw12_awake.f k).bind fun t => some t) (fun k => ?_) (Evt.bind awake12 (Evt.of fun k => rfl))
    simp only [splicelaw12_PlaceMore.j0]
    rfl
  | false =>
    obtain ⟨hf, hne⟩ := h rfl
    have a1 := hf.lens
    have a2 := hf.lend
    have t0 : 0 ≤ Int.tmod u 5 ∧ Int.tmod u 5 < 5 := by rw [Int.tmod_eq_emod_of_nonneg hu.1]; omega
    refine Evt.step (h := fun k => (place_All.f k ds dd en).bind fun t382 => ((place_Plan.f k ds dd en t382).bind fun bt385 => ((place_All.f k ds (dd ++ [newD a u]) en).bind fun t396 => ((place_Plan.f k ds (dd ++ [newD a u]) en t396).bind fun bt399 => (if bt385.2.2.2.2.2 = 0 then (splicelaw12_PlaceMore.j1 k a bt385.2.2.2.2.2 bt399.2.2.2.2.2 (bt399.2.2.2.2.2 != 0) ds dd en bt385.1 bt385.2.1 bt385.2.2.1 bt385.2.2.2.1 bt385.2.2.2.2.1 bt399.1 bt399.2.1 bt399.2.2.1 bt399.2.2.2.1 bt399.2.2.2.2.1) else (splicelaw12_PlaceMore.j1 k a bt385.2.2.2.2.2 bt399.2.2.2.2.2 true ds dd en bt385.1 bt385.2.1 bt385.2.2.1 bt385.2.2.2.1 bt385.2.2.2.2.1 bt399.1 bt399.2.1 bt399.2.2.1 bt399.2.2.2.1 bt399.2.2.2.2.1)))))) (fun k => ?_) ?_
    · simp only [splicelaw12_PlaceMore.j0, Option.bind_some, List.nil_append, List.length_nil, List.length_cons, Nat.zero_add]
      rw [if_neg (by decide), if_pos (by omega), if_pos t0.1, if_pos (by simpa using t0.2), if_pos (by omega)]
      rfl
    have hal := allL_len ds.length
    refine Evt.bind (all_eq ds dd en a1) ?_
    refine Evt.bind (plan_eq1 ds dd en (allL ds.length) hf.small (by omega) a1 (by omega)) ?_
    refine Evt.bind (all_eq ds (dd ++ [newD a u]) en a1) ?_
    refine Evt.bind (plan_eq1 ds (dd ++ [newD a u]) en (allL ds.length) hf.small (by omega) a1 (by simp; omega)) ?_
    generalize hP : planS ds dd en (allL ds.length) = P
    generalize hQ : planS ds (dd ++ [newD a u]) en (allL ds.length) = Q
    unfold planS at hP hQ
    have hcl : ∀ ys v, cL ds (allL ds.length) (List.replicate ds.length (-1)) 0 = some (ys, v) → ys.length = ds.length := fun ys v hy => by
      have := cL_len ds _ _ _ _ _ hy
      simpa using this
    generalize cL ds (allL ds.length) (List.replicate ds.length (-1)) 0 = c at hcl hP hQ
    rcases c with _ | ⟨xs, w⟩
    · simp only [resR] at hP hQ
      subst hP hQ
      exact Evt.congr (fun k => if_neg (by decide)) (more_j1 ds dd en a _ _ _ _ _ _ _ _ _ _ _ _ (fun h => by cases h))
    · have hxl := hcl xs w rfl
      simp only [resR] at hP hQ
      by_cases hok : okC en xs
      · rw [if_pos hok] at hP hQ
        obtain ⟨q, e, wr, v, hq, e0, e1, v1, v2, f1, f2⟩ := fin_more dd hf.fine a2 a u ha hu.1 xs w
        rw [f1] at hP
        rw [f2] at hQ
        by_cases c1 : w > 65536
        · rw [if_pos c1] at hP hQ
          subst hP hQ
          exact Evt.congr (fun k => if_neg (by decide)) (more_j1 ds dd en a _ _ _ _ _ _ _ _ _ _ _ _ (fun h => by cases h))
        rw [if_neg c1] at hP hQ
        by_cases c2 : e > 65536
        · rw [if_pos c2] at hP
          subst hP
          exact Evt.congr (fun k => if_neg (by decide)) (more_j1 ds dd en a _ _ _ _ _ _ _ _ _ _ _ _ (fun h => by cases h))
        rw [if_neg c2] at hP
        subst hP
        by_cases c3 : v + (1 + a) > 65536
        · rw [if_pos c3] at hQ
          subst hQ
          exact Evt.congr (fun k => if_pos rfl) (more_j1 ds dd en a _ _ _ _ _ _ _ _ _ _ _ _ (fun _ => rfl))
        rw [if_neg c3] at hQ
        subst hQ
        refine Evt.congr (fun k => if_pos rfl) ?_
        have tk : (q ++ [v]).take ((dd.length : Int) : Int).toNat = q := by
          rw [Int.toNat_natCast, ← hq, List.take_left]
        have rv : rd (q ++ [v]) (dd.length : Int) = v := by
          unfold rd
          rw [Int.toNat_natCast, ← hq, List.getD_eq_getElem?_getD, List.getElem?_append_right (Nat.le_refl _), Nat.sub_self]
          rfl
        have ql : ((q ++ [v]).length : Int) = (dd.length : Int) + 1 := by rw [List.length_append, hq]; rfl
        refine Evt.step (h := fun k => (spliceref03_Ints.f k q q).bind fun t415 => if t415 = true then ((spliceref03_Ints.f k xs xs).bind fun t418 => (some t418)) else none) (fun k => ?_) ?_
        · simp only [splicelaw12_PlaceMore.j1, tk, rv, ql]
          rw [if_neg (by decide), if_pos (by omega), if_pos (by omega)]
          congr 1
          funext t
          by_cases ht : t = true
          · rw [if_pos ht, if_pos ht, if_pos trivial, if_pos (by omega), if_pos v1, w64 (x := v + 1) (by omega) (by omega), w64 (x := a) (by omega) (by omega), w64 (x := v + 1 + a) (by omega) (by omega), if_pos (by omega)]
          · rw [if_neg ht, if_neg ht]
        refine Evt.bind (ints_refl q (by omega)) ?_
        refine Evt.congr (fun k => if_pos rfl) ?_
        exact Evt.bind (ints_refl xs (by omega)) (Evt.of fun k => rfl)
      · rw [if_neg hok] at hP hQ
        subst hP hQ
        exact Evt.congr (fun k => if_neg (by decide)) (more_j1 ds dd en a _ _ _ _ _ _ _ _ _ _ _ _ (fun h => by cases h))
theorem PlaceMore : splicelaw12_PlaceMore.Pure := by
  intro x0 x1 x2 hw h1 h2
  refine Evt.out ?_
  obtain ⟨b, hb, hfit⟩ := may_eq x0.f0 x0.f1 x0.f2
  refine Evt.bind awake12 ?_
  refine Evt.congr (fun k => if_pos rfl) ?_
  refine Evt.bind hb ?_
  cases b with
  | true =>
    refine Evt.congr (fun k => if_pos rfl) ?_
    exact more_j0 x0.f0 x0.f1 x0.f2 x1 x2 h1 h2 _ (fun h => ⟨hfit rfl, fun h0 => by rw [h0] at h; exact absurd h (by decide)⟩)
  | false =>
    refine Evt.congr (fun k => if_neg (by decide)) ?_
    exact more_j0 x0.f0 x0.f1 x0.f2 x1 x2 h1 h2 _ (fun h => by cases h)
end Go.Proofs.Ytddggnfbplekhaa.Pure
