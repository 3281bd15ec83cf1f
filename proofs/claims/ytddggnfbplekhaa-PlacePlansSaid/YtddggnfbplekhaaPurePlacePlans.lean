/- PlacePlans, in plain numbers. Own work; a template. -/
import Derived.Test.YtddggnfbplekhaaPlaceLaws
namespace Go.Proofs.Ytddggnfbplekhaa.Pure
open Go.RowKit Go.Proofs.Ytddggnfbplekhaa.Q Go.Proofs.YtddggnfbplekhaaW.PrintWords Go.Proofs.YtddggnfbplekhaaW.PrintLast Go.Proofs.YtddggnfbplekhaaW.PrintMore Go.Proofs.Ytddggnfbplekhaa.Place
theorem plans_j0 (ds : List S42) (dd : List S39) (en : Int) (os : List Int) (b : Bool) (h : b = false → Fit ds dd ∧ os.length ≤ 400) : Evt (fun k => splicelaw12_PlacePlans.j0 k os b ds dd en) true := by
  cases b with
  | true =>
    refine Evt.step (h := fun k => (splicelaw12_awake.f k).bind fun t => some t) (fun k => ?_) (Evt.bind awake12 (Evt.of fun k => rfl))
    simp only [splicelaw12_PlacePlans.j0]
    rfl
  | false =>
    obtain ⟨hf, ho⟩ := h rfl
    obtain ⟨l1, l2⟩ := plan_len ds dd en os
    have a1 := hf.lens
    have a2 := hf.lend
    refine Evt.step (fun k => by simp only [splicelaw12_PlacePlans.j0]; exact if_neg (by decide)) ?_
    refine Evt.bind (plan_eq ds dd en os hf.small ho hf.lens hf.lend) ?_
    refine Evt.bind (ref_eq ds dd en os hf.small ho hf.lens hf.fine hf.lend) ?_
    refine Evt.congr (fun k => if_pos rfl) ?_
    exact Evt.bind (same_refl _ _ _ _ _ (by omega) (by omega)) (Evt.of fun k => rfl)
theorem PlacePlans : splicelaw12_PlacePlans.Pure := by
  intro p os hp ho
  refine Evt.out ?_
  refine Evt.bind awake12 ?_
  refine Evt.congr (fun k => if_pos rfl) ?_
  obtain ⟨b, hb, hb'⟩ := may_eq p.f0 p.f1 p.f2
  refine Evt.bind hb ?_
  cases b with
  | true =>
    refine Evt.congr (fun k => if_pos rfl) ?_
    refine plans_j0 _ _ _ _ _ fun h => ⟨hb' rfl, ?_⟩
    have := of_decide_eq_false h
    omega
  | false =>
    refine Evt.congr (fun k => if_neg (by decide)) ?_
    exact plans_j0 _ _ _ _ _ fun h => by cases h
end Go.Proofs.Ytddggnfbplekhaa.Pure
