/- PlaceKeeps, in plain numbers. Own work; a template. -/
import Derived.Test.YtddggnfbplekhaaPlaceLaws
namespace Go.Proofs.Ytddggnfbplekhaa.Pure
open Go.RowKit Go.Proofs.Ytddggnfbplekhaa.Q Go.Proofs.YtddggnfbplekhaaW.PrintWords Go.Proofs.YtddggnfbplekhaaW.PrintLast Go.Proofs.YtddggnfbplekhaaW.PrintMore Go.Proofs.Ytddggnfbplekhaa.Place
theorem all_loop (n : Nat) (hn : n ≤ 300) (d : Nat) : ∀ (i : Nat) (xs : List Int), i ≤ n → n - i = d → xs.length = i → ∃ ys : List Int, ys.length = n ∧ Evt (fun k => place_All.l0 k xs (n : Int) i) ys := by
  induction d with
  | zero =>
    intro i xs hi hd hx
    refine ⟨xs, by omega, Evt.of fun k => ?_⟩
    simp only [place_All.l0]
    rw [if_neg (by omega)]
  | succ d ih =>
    intro i xs hi hd hx
    obtain ⟨ys, h1, h2⟩ := ih (i + 1) (xs ++ [(i : Int)]) (by omega) (by omega) (by simp; omega)
    refine ⟨ys, h1, Evt.step (fun k => ?_) h2⟩
    simp only [place_All.l0]
    rw [if_pos (by omega), if_pos (by omega), w64 (by omega) (by omega)]
    rfl
theorem keeps_l1 (ds : List S42) (dd : List S39) (en : Int) (os : List Int) (hf : Fit ds dd) (ho : os.length ≤ 300) (a : List Int) (n1 n2 n3 : Int) (d : Nat) : ∀ (i : Nat) (ys : List Int), i ≤ ys.length → ys.length ≤ 300 → ys.length - i = d →
    Evt (fun k => splicelaw12_PlaceKeeps.l1 k os os (planS ds dd en os).2.2.2.2.2 i ds dd en a ys n1 n2 n3) true := by
  induction d with
  | zero =>
    intro i ys hi hl hd
    obtain ⟨l1, l2⟩ := plan_len ds dd en os
    have a1 := hf.lens
    have a2 := hf.lend
    refine Evt.step (fun k => by simp only [splicelaw12_PlaceKeeps.l1]; exact if_neg (by omega)) ?_
    refine Evt.bind (plan_eq ds dd en os hf.small (by omega) hf.lens hf.lend) ?_
    refine Evt.bind (ref_eq ds dd en os hf.small (by omega) hf.lens hf.fine hf.lend) ?_
    refine Evt.bind (ints_refl os (by omega)) ?_
    refine Evt.congr (fun k => if_pos rfl) ?_
    refine Evt.congr (fun k => if_pos rfl) ?_
    exact Evt.bind (same_refl _ _ _ _ _ (by omega) (by omega)) (Evt.of fun k => rfl)
  | succ d ih =>
    intro i ys hi hl hd
    refine Evt.step (fun k => ?_) (ih (i + 1) (ys.set i (-9)) (by rw [List.length_set]; omega) (by rw [List.length_set]; omega) (by rw [List.length_set]; omega))
    simp only [splicelaw12_PlaceKeeps.l1]
    rw [if_pos (by omega), if_pos (by omega), w64 (by omega) (by omega)]
    rfl
theorem keeps_l0 (ds : List S42) (dd : List S39) (en : Int) (os : List Int) (hf : Fit ds dd) (ho : os.length ≤ 300) (ys : List Int) (hy : ys.length ≤ 300) (n1 n2 n3 : Int) (d : Nat) : ∀ (i : Nat) (xs : List Int), i ≤ xs.length → xs.length ≤ 300 → xs.length - i = d →
    Evt (fun k => splicelaw12_PlaceKeeps.l0 k os os (planS ds dd en os).2.2.2.2.2 i ds dd en xs ys n1 n2 n3) true := by
  induction d with
  | zero =>
    intro i xs hi hl hd
    refine Evt.step (fun k => ?_) (keeps_l1 ds dd en os hf ho xs n1 n2 n3 ys.length 0 ys (by omega) hy (by omega))
    simp only [splicelaw12_PlaceKeeps.l0]
    rw [if_neg (by omega)]
    rfl
  | succ d ih =>
    intro i xs hi hl hd
    refine Evt.step (fun k => ?_) (ih (i + 1) (xs.set i (-9)) (by rw [List.length_set]; omega) (by rw [List.length_set]; omega) (by rw [List.length_set]; omega))
    simp only [splicelaw12_PlaceKeeps.l0]
    rw [if_pos (by omega), if_pos (by omega), w64 (by omega) (by omega)]
    rfl
theorem keeps_j0 (ds : List S42) (dd : List S39) (en : Int) (b : Bool) (h : b = false → Fit ds dd) : Evt (fun k => splicelaw12_PlaceKeeps.j0 k b ds dd en) true := by
  cases b with
  | true =>
    refine Evt.step (h := fun k => (splicelaw12_awake.f k).bind fun t => some t) (fun k => ?_) (Evt.bind awake12 (Evt.of fun k => rfl))
    simp only [splicelaw12_PlaceKeeps.j0]
    rfl
  | false =>
    have hf := h rfl
    have a1 := hf.lens
    have a2 := hf.lend
    obtain ⟨os, ho, hos⟩ := all_loop ds.length hf.lens ds.length 0 [] (by omega) (by omega) rfl
    obtain ⟨l1, l2⟩ := plan_len ds dd en os
    refine Evt.step (fun k => by simp only [splicelaw12_PlaceKeeps.j0]; exact if_neg (by decide)) ?_
    refine Evt.bind (f := fun k => place_All.f k ds dd en) hos ?_
    refine Evt.congr (fun k => if_pos (show ([] : List Int).length + os.length < 17592186044416 by simp; omega)) ?_
    refine Evt.bind (plan_eq ds dd en os hf.small (by omega) hf.lens hf.lend) ?_
    exact keeps_l0 ds dd en os hf (by omega) _ (by omega) _ _ _ _ 0 _ (by omega) (by omega) rfl
theorem PlaceKeeps : splicelaw12_PlaceKeeps.Pure := by
  intro p hp
  refine Evt.out ?_
  refine Evt.bind awake12 ?_
  refine Evt.congr (fun k => if_pos rfl) ?_
  obtain ⟨b, hb, hb'⟩ := may_eq p.f0 p.f1 p.f2
  refine Evt.bind hb ?_
  exact keeps_j0 _ _ _ _ fun h => hb' (by simpa using h)
end Go.Proofs.Ytddggnfbplekhaa.Pure
