/- PlaceOrders, in plain numbers. Own work; a template. -/
import Derived.Test.YtddggnfbplekhaaPlaceLaws
namespace Go.Proofs.Ytddggnfbplekhaa.Pure
open Go.RowKit Go.Proofs.Ytddggnfbplekhaa.Q Go.Proofs.YtddggnfbplekhaaW.PrintWords Go.Proofs.YtddggnfbplekhaaW.PrintLast Go.Proofs.YtddggnfbplekhaaW.PrintMore Go.Proofs.Ytddggnfbplekhaa.Place
set_option linter.unusedVariables false
def allL (n : Nat) : List Int := (List.range n).map fun i : Nat => (i : Int)
theorem allL_len (n : Nat) : (allL n).length = n := by simp [allL]
theorem allL_mem (n : Nat) (f : Int) : f ∈ allL n ↔ 0 ≤ f ∧ f < n := by
  unfold allL
  rw [List.mem_map]
  constructor
  · rintro ⟨i, hi, rfl⟩
    rw [List.mem_range] at hi
    omega
  · rintro ⟨h1, h2⟩
    exact ⟨f.toNat, by rw [List.mem_range]; omega, by omega⟩
theorem allL_nodup (n : Nat) : (allL n).Nodup := List.Pairwise.map _ (fun a b (h : a ≠ b) => by omega) List.nodup_range
theorem all_loop (n : Nat) (hn : n ≤ 300) (d : Nat) : ∀ (i : Nat), i ≤ n → n - i = d → Evt (fun k => place_All.l0 k (allL i) (n : Int) i) (allL n) := by
  induction d with
  | zero =>
    intro i hi hd
    obtain rfl : i = n := by omega
    refine Evt.of fun k => ?_
    simp only [place_All.l0]
    rw [if_neg (by omega)]
  | succ d ih =>
    intro i hi hd
    refine Evt.step (fun k => ?_) (ih (i + 1) (by omega) (by omega))
    have : allL (i + 1) = allL i ++ [(i : Int)] := by simp [allL, List.range_succ]
    simp only [place_All.l0]
    rw [if_pos (by omega), if_pos (by rw [allL_len]; omega), w64 (by omega) (by omega), this]
    rfl
theorem all_eq (ds : List S42) (dd : List S39) (en : Int) (hn : ds.length ≤ 300) : Evt (fun k => place_All.f k ds dd en) (allL ds.length) :=
  all_loop ds.length hn ds.length 0 (by omega) (by omega)
def sumL (ds : List S42) : List Int → Int
  | [] => 0
  | f :: fs => ((rd_T42 ds f).f3.length : Int) + sumL ds fs
theorem sumL_app (ds : List S42) : ∀ a b : List Int, sumL ds (a ++ b) = sumL ds a + sumL ds b
  | [], b => by simp [sumL]
  | f :: fs, b => by
    simp only [List.cons_append, sumL]
    rw [sumL_app ds fs b]
    omega
theorem sumL_le (ds : List S42) (hs : Small ds) : ∀ a : List Int, 0 ≤ sumL ds a ∧ sumL ds a ≤ a.length * 70000
  | [] => by simp [sumL]
  | f :: fs => by
    have := sumL_le ds hs fs
    have := hs f
    simp only [sumL, List.length_cons]
    omega
theorem cL_perm (ds : List S42) : ∀ (os xs : List Int) (w : Int), os.Nodup → xs.length = ds.length → (∀ f ∈ os, 0 ≤ f ∧ f < ds.length ∧ rd xs f < 0) →
    ∃ ys, cL ds os xs w = some (ys, w + sumL ds os) ∧ ys.length = ds.length ∧ (∀ j : Int, 0 ≤ j → j ∉ os → rd ys j = rd xs j) ∧ ∀ i : Nat, i < os.length → rd ys (rd os i) = w + sumL ds (os.take i)
  | [], xs, w, _, hl, _ => ⟨xs, by simp [cL, sumL], hl, fun _ _ _ => rfl, fun i hi => by simp at hi⟩
  | f :: fs, xs, w, hn, hl, hf => by
    obtain ⟨h1, h2, h3⟩ := hf f (List.mem_cons_self ..)
    have hn' := List.nodup_cons.1 hn
    obtain ⟨ys, e1, e2, e3, e4⟩ := cL_perm ds fs (xs.set f.toNat w) (w + ((rd_T42 ds f).f3.length : Int)) hn'.2 (by rw [List.length_set]; exact hl) (fun g hg => by
      obtain ⟨g1, g2, g3⟩ := hf g (List.mem_cons_of_mem _ hg)
      rw [rd_set h1 g1 (by omega), if_neg (fun e => hn'.1 (by rw [e] at hg; exact hg))]
      exact ⟨g1, g2, g3⟩)
    refine ⟨ys, ?_, e2, fun j hj hm => ?_, fun i hi => ?_⟩
    · unfold cL
      rw [if_neg (by omega), e1]
      simp only [sumL]
      rw [Int.add_assoc]
    · rw [e3 j hj (fun h => hm (List.mem_cons_of_mem _ h)), rd_set h1 hj (by omega), if_neg (fun e => hm (by rw [e]; exact List.mem_cons_self ..))]
    · cases i with
      | zero =>
        show rd ys f = _
        rw [e3 f h1 hn'.1, rd_set h1 h1 (by omega), if_pos rfl]
        simp [sumL]
      | succ i =>
        have : rd (f :: fs) ((i + 1 : Nat) : Int) = rd fs (i : Int) := by unfold rd; simp
        rw [this, e4 i (by simpa using hi), List.take_succ_cons]
        simp only [sumL]
        rw [Int.add_assoc]
theorem rd_mem {os : List Int} {i : Nat} (h : i < os.length) : rd os (i : Int) ∈ os := by
  have : rd os i = os[i] := by unfold rd; simp [List.getD_eq_getElem?_getD, h]
  rw [this]
  exact List.getElem_mem h
theorem mem_rd {os : List Int} {f : Int} (h : f ∈ os) : ∃ i : Nat, i < os.length ∧ rd os (i : Int) = f := by
  obtain ⟨i, hi, e⟩ := List.getElem_of_mem h
  exact ⟨i, hi, by unfold rd; simp [List.getD_eq_getElem?_getD, hi, e]⟩
/-- A plan of all functions, in some order. -/
theorem plan_perm (ds : List S42) (dd : List S39) (en : Int) (hs : Small ds) (os : List Int) (hn : os.Nodup) (hm : ∀ f, f ∈ os ↔ 0 ≤ f ∧ f < ds.length) :
    ∃ ys, ys.length = ds.length ∧ (∀ i : Nat, i < os.length → rd ys (rd os i) = sumL ds (os.take i)) ∧ planS ds dd en os = if 0 ≤ en ∧ en < ds.length then fin dd ys (sumL ds os) else ([], [], 0, 0, 0, 1) := by
  obtain ⟨ys, e1, e2, e3, e4⟩ := cL_perm ds os (List.replicate ds.length (-1)) 0 hn (by simp) (fun f hf => by
    have := (hm f).1 hf
    refine ⟨this.1, this.2, ?_⟩
    unfold rd
    rw [List.getD_eq_getElem?_getD, List.getElem?_replicate, if_pos (by omega)]
    decide)
  simp only [Int.zero_add] at e1 e4
  refine ⟨ys, e2, e4, ?_⟩
  unfold planS
  rw [e1]
  simp only [resR]
  by_cases h : 0 ≤ en ∧ en < ds.length
  · rw [if_pos h, if_pos]
    refine ⟨h.1, by omega, ?_⟩
    obtain ⟨i, hi, e⟩ := mem_rd ((hm en).2 h)
    rw [← e, e4 i hi]
    exact (sumL_le ds hs _).1
  · rw [if_neg h, if_neg]
    intro h'
    exact h ⟨h'.1, by have := h'.2.1; omega⟩
theorem orders_l0 (ds : List S42) (dd : List S39) (en : Int) (hs : Small ds) (os ys : List Int) (hy : ys.length = ds.length) (hd : ds.length ≤ 300) (ho : os.length ≤ 300) (hm : ∀ f ∈ os, 0 ≤ f ∧ f < ds.length)
    (H : ∀ i : Nat, i < os.length → rd ys (rd os i) = sumL ds (os.take i)) (xs zs : List Int) (hz : zs.length < 1000000) (a b c : Int) (d : Nat) : ∀ (i : Nat), i ≤ os.length → os.length - i = d →
    Evt (fun k => splicelaw12_PlaceOrders.l0 k os (sumL ds (os.take i)) i ds dd en xs zs a b c ys zs a b c) true := by
  induction d with
  | zero =>
    intro i hi hd
    refine Evt.step (fun k => by simp only [splicelaw12_PlaceOrders.l0]; exact if_neg (by omega)) ?_
    refine Evt.bind (ints_refl zs hz) ?_
    refine Evt.of fun k => ?_
    simp
  | succ d ih =>
    intro i hi hd
    have N := ih (i + 1) (by omega) (by omega)
    have hlt : i < os.length := by omega
    have hmm := hm _ (rd_mem hlt)
    have e : sumL ds (os.take (i + 1)) = sumL ds (os.take i) + ((rd_T42 ds (rd os i)).f3.length : Int) := by
      rw [List.take_succ_eq_append_getElem hlt, sumL_app]
      have : rd os i = os[i] := by unfold rd; simp [List.getD_eq_getElem?_getD, hlt]
      rw [this]
      simp [sumL]
    have b1 := sumL_le ds hs (os.take (i + 1))
    have b2 : (os.take (i + 1)).length ≤ 300 := by rw [List.length_take]; omega
    refine Evt.step (fun k => ?_) N
    simp only [splicelaw12_PlaceOrders.l0]
    rw [if_pos (by omega), if_pos (by omega), if_pos hmm.1, if_pos (by omega), if_pos (H i hlt), if_pos (by omega), ← e, w64 (x := sumL ds _) (by omega) (by omega), w64 (by omega) (by omega)]
    rfl
theorem orders_j0 (ds : List S42) (dd : List S39) (en t : Int) (ht : 0 ≤ t ∧ t ≤ 255) (b : Bool) (h : b = false → Fit ds dd ∧ ds.length ≠ 0) : Evt (fun k => splicelaw12_PlaceOrders.j0 k t b ds dd en) true := by
  cases b with
  | true =>
    refine Evt.step (h := fun k => (splicelaw12_awake.f k).bind fun t => some t) (fun k => ?_) (Evt.bind awake12 (Evt.of fun k => rfl))
    simp only [splicelaw12_PlaceOrders.j0]
    rfl
  | false =>
    obtain ⟨hf, hne⟩ := h rfl
    have a1 := hf.lens
    have a2 := hf.lend
    refine Evt.step (fun k => by simp only [splicelaw12_PlaceOrders.j0]; exact if_neg (by decide)) ?_
    refine Evt.bind (all_eq ds dd en a1) ?_
    have hl := allL_len ds.length
    have ew : wrap64 t = t := w64 (by omega) (by omega)
    have hk : Int.tmod (wrap64 t) ((allL ds.length).length : Int) = t % (ds.length : Int) := by rw [ew, hl, Int.tmod_eq_emod_of_nonneg ht.1]
    have k1 := Int.emod_nonneg t (b := (ds.length : Int)) (by omega)
    have k2 := Int.emod_lt_of_pos t (b := (ds.length : Int)) (by omega)
    rw [hk]
    obtain ⟨c, hc⟩ : ∃ c : Nat, t % (ds.length : Int) = c := ⟨(t % (ds.length : Int)).toNat, by omega⟩
    rw [hc] at k2 ⊢
    refine Evt.congr (fun k => (if_neg (by rw [hl]; omega)).trans ((Option.bind_some ..).trans ((if_pos (by omega)).trans ((if_pos (by rw [hl]; omega)).trans ((Option.bind_some ..).trans ((if_pos (by simp; omega)).trans ((Option.bind_some ..).trans ((Option.bind_some ..).trans ((if_pos (by simp; omega)).trans (Option.bind_some ..)))))))))) ?_
    rw [Int.toNat_natCast, List.nil_append]
    generalize hos : (allL ds.length).drop c ++ (allL ds.length).take c = os
    have hperm : os.Perm (allL ds.length) := by
      rw [← hos]
      exact List.perm_append_comm.trans (by rw [List.take_append_drop])
    have hol : os.length = ds.length := by rw [hperm.length_eq, hl]
    have hnod : os.Nodup := hperm.nodup_iff.2 (allL_nodup _)
    have hmem : ∀ f, f ∈ os ↔ 0 ≤ f ∧ f < ds.length := fun f => by rw [hperm.mem_iff, allL_mem]
    have hsum : sumL ds os = sumL ds (allL ds.length) := by
      rw [← hos, sumL_app]
      have := sumL_app ds ((allL ds.length).take c) ((allL ds.length).drop c)
      rw [List.take_append_drop] at this
      omega
    refine Evt.bind (plan_eq ds dd en (allL ds.length) hf.small (by omega) hf.lens hf.lend) ?_
    refine Evt.bind (plan_eq ds dd en os hf.small (by omega) hf.lens hf.lend) ?_
    obtain ⟨xs, x1, x2, x3⟩ := plan_perm ds dd en hf.small (allL ds.length) (allL_nodup _) (allL_mem _)
    obtain ⟨ys, y1, y2, y3⟩ := plan_perm ds dd en hf.small os hnod hmem
    have l2 := plan_len ds dd en os
    have hb := sumL_le ds hf.small os
    rw [hsum] at y3
    have hz : (planS ds dd en os).2.1.length < 1000000 := by omega
    generalize hx : planS ds dd en (allL ds.length) = X at *
    generalize hy : planS ds dd en os = Y at *
    by_cases ho : 0 ≤ en ∧ en < ds.length
    · rw [if_pos ho] at x3 y3
      unfold fin at x3 y3
      simp only at x3 y3
      by_cases h1 : sumL ds (allL ds.length) > 65536
      · rw [if_pos h1] at x3 y3
        clear hx hy
        subst x3
        subst y3
        exact Evt.of fun k => rfl
      rw [if_neg h1] at x3 y3
      by_cases h2 : (layD false dd 0 (layD true dd 0 (List.replicate dd.length 0) 0).1 (upZ (layD true dd 0 (List.replicate dd.length 0) 0).2 16)).2 > 65536
      · rw [if_pos h2] at x3 y3
        clear hx hy
        subst x3
        subst y3
        exact Evt.of fun k => rfl
      rw [if_neg h2] at x3 y3
      clear hx hy
      subst x3
      subst y3
      refine Evt.congr (fun k => if_pos rfl) ?_
      refine Evt.congr (fun k => if_pos rfl) ?_
      exact orders_l0 ds dd en hf.small os ys y1 a1 (by omega) (fun f hf => (hmem f).1 hf) y2 xs _ hz _ _ _ _ 0 (by omega) rfl
    · rw [if_neg ho] at x3 y3
      clear hx hy
      subst x3
      subst y3
      exact Evt.of fun k => rfl
theorem PlaceOrders : splicelaw12_PlaceOrders.Pure := by
  intro p t hp ht
  refine Evt.out ?_
  refine Evt.bind awake12 ?_
  refine Evt.congr (fun k => if_pos rfl) ?_
  obtain ⟨b, hb, hb'⟩ := may_eq p.f0 p.f1 p.f2
  refine Evt.bind hb ?_
  cases b with
  | true =>
    refine Evt.congr (fun k => if_pos rfl) ?_
    refine orders_j0 _ _ _ _ ht _ fun h => ⟨hb' rfl, ?_⟩
    simpa using h
  | false =>
    refine Evt.congr (fun k => if_neg (by decide)) ?_
    exact orders_j0 _ _ _ _ ht _ fun h => by cases h
end Go.Proofs.Ytddggnfbplekhaa.Pure
