/- Several texts in one, written by mergeall.py. Own work. -/
import Derived.Test.YtcagccodmmcnfaaWMore
import Derived.Deep.WholeRow
import Derived.WalkKit
import Derived.KernelRfl
import Derived.Deep.RegionLawGrows
import Derived.Deep.RegionHeld3
import Derived.ChangeKeysEq
import Derived.Laws.OwnMore
import Derived.Lib.AppendZeros
section
/- Blocks of a call's own, held in one fact: boxes, loads, stores, calls as steps of a walk. Own work; a template. -/
namespace Go.Proofs.Ytcagccodmmcnfaa.Hp
open Go.RowKit Go.Proofs.YtcagccodmmcnfaaW.PrintWords Go.Proofs.YtcagccodmmcnfaaW.PrintLast
set_option linter.unusedVariables false
/-- The blocks of L are the call's own, each its cells; below w0 nothing has changed. -/
structure Hp (w0 W : World) (L : List (Nat × Array Value × TypeId)) : Prop where
  below : Below w0.heap.size w0 W
  blk : ∀ x ∈ L, w0.heap.size ≤ x.1 ∧ W.heap[x.1]? = some (.cells x.2.1 x.2.2 (0, 0))
  nd : L.Pairwise (fun a b => a.1 ≠ b.1)
theorem Hp.nil (w : World) : Hp w w [] := ⟨Below.refl _ _, fun _ h => absurd h (by simp), .nil⟩
section
variable {w0 W W' : World} {L : List (Nat × Array Value × TypeId)} {g : Nat} {cs : Array Value} {t : TypeId}
theorem Hp.alloc (H : Hp w0 W L) (cs : Array Value) (t : TypeId) : Hp w0 (W.alloc (.cells cs t (0, 0))) ((W.heap.size, cs, t) :: L) :=
  ⟨below_alloc H.below _, fun x hx => by
    rcases List.mem_cons.1 hx with rfl | hx
    · exact ⟨H.below.size, blk_new W _⟩
    · exact ⟨(H.blk x hx).1, blk_alloc (H.blk x hx).2 _⟩,
   .cons (fun x hx => Nat.ne_of_gt (blk_lt (H.blk x hx).2)) H.nd⟩
theorem Hp.call (H : Hp w0 W L) (hb : Below W.heap.size W W') : Hp w0 W' L :=
  ⟨below_step H.below hb, fun x hx => ⟨(H.blk x hx).1, blk_below (H.blk x hx).2 hb⟩, H.nd⟩
theorem Hp.drew (H : Hp w0 W L) : Hp w0 W.drew L := ⟨below_drew H.below, fun x hx => ⟨(H.blk x hx).1, blk_drew (H.blk x hx).2⟩, H.nd⟩
theorem Hp.drewN (H : Hp w0 W L) (n : Nat) : Hp w0 (W.drewN n) L := ⟨pw_below_drewN H.below n, fun x hx => ⟨(H.blk x hx).1, blk_drewN (H.blk x hx).2 n⟩, H.nd⟩
theorem Hp.heap (H : Hp w0 W L) (hm : (g, cs, t) ∈ L) : W.heap[g]? = some (.cells cs t (0, 0)) := (H.blk _ hm).2
theorem Hp.cell (H : Hp w0 W L) (hm : (g, cs, t) ∈ L) (i : Nat) {v : Value} (hc : cs[i]? = some v) : W.cell? ⟨g, i, none⟩ = some v := (blk_cell (H.heap hm) i).trans hc
theorem Hp.frozen (H : Hp w0 W L) (hm : (g, cs, t) ∈ L) (i : Nat) : W.frozen? ⟨g, i, none⟩ = false := blk_frozen (H.heap hm) i
theorem Hp.sub {L' : List (Nat × Array Value × TypeId)} (H : Hp w0 W L) (h : L'.Sublist L) : Hp w0 W L' := ⟨H.below, fun x hx => H.blk x (h.subset hx), H.nd.sublist h⟩
/-- The list with a block's cells changed. -/
def setL (L : List (Nat × Array Value × TypeId)) (n : Nat) (cs : Array Value) : List (Nat × Array Value × TypeId) := L.modify n (fun x => (x.1, cs, x.2.2))
theorem Hp.row (H : Hp w0 W L) (n : Nat) (hn : L[n]? = some (g, cs, t)) (cs' : Array Value) : Hp w0 (W.setRow g cs') (setL L n cs') := by
  have hnl : n < L.length := (List.getElem?_eq_some_iff.1 hn).1
  have hgn : L[n] = (g, cs, t) := (List.getElem?_eq_some_iff.1 hn).2
  have hmem : (g, cs, t) ∈ L := hgn ▸ List.getElem_mem hnl
  have hmap : (setL L n cs').map (·.1) = L.map (·.1) := by
    unfold setL
    apply List.ext_getElem?
    intro i
    rw [List.getElem?_map, List.getElem?_modify, List.getElem?_map]
    cases L[i]? with
    | none => rfl
    | some x => by_cases h : n = i <;> simp [h]
  refine ⟨⟨H.below.os, H.below.tape, H.below.output, by simp; exact H.below.size, fun k hk => ?_⟩, fun x hx => ?_, ?_⟩
  · have := (H.blk _ hmem).1
    rw [setRow_other _ _ _ _ (by simp only at this; omega)]
    exact H.below.block k hk
  · obtain ⟨i, hi, rfl⟩ := List.mem_iff_getElem.1 hx
    have hi' : i < L.length := by simpa [setL] using hi
    have e : (setL L n cs')[i] = if n = i then (L[i].1, cs', L[i].2.2) else L[i] := by
      simp only [setL, List.getElem_modify]
    rw [e]
    by_cases hni : n = i
    · subst hni
      rw [if_pos rfl, hgn]
      exact ⟨(H.blk _ hmem).1, setRow_heap _ _ _ _ _ _ (H.heap hmem)⟩
    · rw [if_neg hni]
      have hx := H.blk _ (List.getElem_mem hi')
      refine ⟨hx.1, ?_⟩
      rw [setRow_other]
      · exact hx.2
      · intro e2
        have := List.pairwise_iff_getElem.1 H.nd
        rcases Nat.lt_or_gt_of_ne hni with hlt | hgt
        · exact this n i hnl hi' hlt (by rw [hgn]; exact e2.symm)
        · exact this i n hi' hnl hgt (by rw [hgn]; exact e2)
  · have h1 := H.nd
    have key : ∀ l : List (Nat × Array Value × TypeId), l.Pairwise (fun a b => a.1 ≠ b.1) ↔ (l.map (·.1)).Pairwise (· ≠ ·) := fun l => by rw [List.pairwise_map]
    rw [key, hmap, ← key]
    exact h1
end
section
variable {w0 W : World} {L2 : List (Nat × Array Value × TypeId)} {g : Nat} {cs cs' : Array Value} {t : TypeId}
theorem Hp.set0 (H : Hp w0 W ((g, cs, t) :: L2)) (i : Nat) (v : Value) (hc : cs.setIfInBounds i v = cs') : Hp w0 (W.setCell ⟨g, i, none⟩ v) ((g, cs', t) :: L2) := by
  subst hc
  have h := H.row 0 rfl (cs.setIfInBounds i v)
  rw [← setCell_eq_setRow W g i cs t (0, 0) v (H.heap (g := g) (cs := cs) (t := t) (by simp))] at h
  exact h
theorem Hp.set1 {x1 : Nat × Array Value × TypeId} (H : Hp w0 W (x1 :: (g, cs, t) :: L2)) (i : Nat) (v : Value) (hc : cs.setIfInBounds i v = cs') : Hp w0 (W.setCell ⟨g, i, none⟩ v) (x1 :: (g, cs', t) :: L2) := by
  subst hc
  have h := H.row 1 rfl (cs.setIfInBounds i v)
  rw [← setCell_eq_setRow W g i cs t (0, 0) v (H.heap (g := g) (cs := cs) (t := t) (by simp))] at h
  exact h
theorem Hp.set2 {x1 x2 : Nat × Array Value × TypeId} (H : Hp w0 W (x1 :: x2 :: (g, cs, t) :: L2)) (i : Nat) (v : Value) (hc : cs.setIfInBounds i v = cs') : Hp w0 (W.setCell ⟨g, i, none⟩ v) (x1 :: x2 :: (g, cs', t) :: L2) := by
  subst hc
  have h := H.row 2 rfl (cs.setIfInBounds i v)
  rw [← setCell_eq_setRow W g i cs t (0, 0) v (H.heap (g := g) (cs := cs) (t := t) (by simp))] at h
  exact h
theorem Hp.set4 {x1 x2 x3 x4 : Nat × Array Value × TypeId} (H : Hp w0 W (x1 :: x2 :: x3 :: x4 :: (g, cs, t) :: L2)) (i : Nat) (v : Value) (hc : cs.setIfInBounds i v = cs') : Hp w0 (W.setCell ⟨g, i, none⟩ v) (x1 :: x2 :: x3 :: x4 :: (g, cs', t) :: L2) := by
  subst hc
  have h := H.row 4 rfl (cs.setIfInBounds i v)
  rw [← setCell_eq_setRow W g i cs t (0, 0) v (H.heap (g := g) (cs := cs) (t := t) (by simp))] at h
  exact h
end
/-- Cells from off on, laid. -/
def putSeg (cs : Array Value) (off : Nat) (l : List Value) : Array Value := (cs.toList.take off ++ l ++ cs.toList.drop (off + l.length)).toArray
theorem ext_all (cs : Array Value) (n : Nat) (h : cs.size = n) : cs.extract 0 (0 + n) = cs := by
  subst h
  simp
section
variable {P : Program} {W : World} {g : Nat} {cs : Array Value} {t : TypeId}
theorem add_any (g o j : Nat) : (⟨g, o, none⟩ : Addr).add j = ⟨g, o + j, none⟩ := by
  unfold Addr.add
  split
  · subst j; rfl
  · rfl
theorem run_seg (W : World) (g off n : Nat) (ty t : TypeId) (cs : Array Value) (hg : W.heap[g]? = some (.cells cs t (0, 0))) (hu : (match P.underlying ty with | some (.struct _) | some (.array _ _) => true | _ => false) = true) (hi : (P.info? ty).map (·.size) = some n) (hfit : off + n ≤ cs.size) :
    (loadVar ty ⟨g, off, none⟩).run P W = .ok (.agg (cs.extract off (off + n))) W := by
  have hlen : (cs.extract off (off + n)).toList.length = n := by simp; omega
  have hl : (loadCells ⟨g, off, none⟩ (cs.extract off (off + n)).toList.length).run P W = .ok (cs.extract off (off + n)).toList.toArray W :=
    run_loadCells_list (P := P) W ⟨g, off, none⟩ _ (fun j v hv => by
      rw [add_any, cell_of_row W g (off + j) cs t (0, 0) hg]
      have hj : j < n := by rw [← hlen]; exact (List.getElem?_eq_some_iff.1 hv).1
      rw [Array.getElem?_toList, Array.getElem?_extract] at hv
      rw [if_pos (by omega)] at hv
      exact hv)
  rw [hlen] at hl
  cases hq : P.info? ty with
  | none => simp [hq] at hi
  | some i =>
    have hs : i.size = n := by simpa [hq] using hi
    cases hd : P.underlying ty with
    | none => simp [hd] at hu
    | some d =>
      have hagg : (isAgg ty).run P W = .ok true W := by
        unfold isAgg
        rw [Sem.run_bind, run_underlying hd W]
        rw [hd] at hu
        cases d <;> simp_all
      simp only [Array.toArray_toList] at hl
      simp [loadVar, Sem.run_bind, hagg, sizeOf, typeInfo, hq, hs, hl]
theorem run_one (W : World) (g off : Nat) (ty t : TypeId) (cs : Array Value) (v : Value) (hg : W.heap[g]? = some (.cells cs t (0, 0))) (hu : (match P.underlying ty with | some (.struct _) | some (.array _ _) | none => false | _ => true) = true) (hc : cs[off]? = some v) :
    (loadVar ty ⟨g, off, none⟩).run P W = .ok v W := by
  cases hd : P.underlying ty with
  | none => simp [hd] at hu
  | some d =>
    have hagg : (isAgg ty).run P W = .ok false W := by
      unfold isAgg
      rw [Sem.run_bind, run_underlying hd W]
      rw [hd] at hu
      cases d <;> simp_all
    have hcell : W.cell? ⟨g, off, none⟩ = some v := (cell_of_row W g off cs t (0, 0) hg).trans hc
    simp [loadVar, Sem.run_bind, hagg, hcell]
theorem run_puts (g : Nat) (t : TypeId) : ∀ (vs : List Value) (off i : Nat) (cur : Array Value) (w : World), w.heap[g]? = some (.cells cur t (0, 0)) → off + i + vs.length ≤ cur.size → (∀ v ∈ vs, v.oneCell' = true) →
    (storeCells ⟨g, off, none⟩ vs i).run P w = .ok () (w.setRow g (putSeg cur (off + i) vs))
  | [], off, i, cur, w, hg, hl, _ => by
    have e : putSeg cur (off + i) [] = cur := by
      unfold putSeg
      simp
    rw [e]
    simp only [storeCells]
    show Result.ok () w = _
    congr 1
    have hlt : g < w.heap.size := (Array.getElem?_eq_some_iff.1 hg).1
    have hv : w.heap[g] = .cells cur t (0, 0) := (Array.getElem?_eq_some_iff.1 hg).2
    unfold World.setRow
    cases w with
    | mk heap tape drawn os output =>
      congr 1
      apply Array.ext
      · simp
      · intro k h1 h2
        simp only [Array.getElem_modify]
        split
        · rename_i hk; subst hk; simp at hv; simp [hv]
        · rfl
  | v :: rest, off, i, cur, w, hg, hl, h1 => by
    have hi : off + i < cur.size := by simp at hl; omega
    have hcell : w.cell? ⟨g, off + i, none⟩ = some cur[off + i] := by simp [World.cell?, hg, hi]
    have hfro : w.frozen? ⟨g, off + i, none⟩ = false := by simp [World.frozen?, hg]
    have hst : (store ((⟨g, off, none⟩ : Addr).add i) v).run P w = .ok () (w.setRow g (cur.setIfInBounds (off + i) v)) := by
      rw [add_any, run_store P w _ v _ (h1 v (by simp)), hcell]
      simp [hfro, setCell_eq_setRow w g (off + i) cur t (0, 0) v hg]
    have ih := run_puts g t rest off (i + 1) (cur.setIfInBounds (off + i) v) (w.setRow g (cur.setIfInBounds (off + i) v)) (setRow_heap w g cur _ t _ hg) (by simp at hl ⊢; omega) (fun x hx => h1 x (by simp [hx]))
    simp only [storeCells, Sem.run_bind, hst, Result.andThen_ok, ih, setRow_setRow]
    congr 2
    unfold putSeg
    congr 1
    apply List.ext_getElem?
    intro k
    simp only [Array.toList_setIfInBounds, List.getElem?_append, List.length_append, List.length_take, List.length_set, Array.length_toList, List.getElem?_drop, List.length_cons]
    simp only [List.getElem?_take, List.getElem?_set, List.getElem?_cons, Array.length_toList]
    simp only [List.length_cons] at hl
    rcases Nat.lt_trichotomy k (off + i) with hk | hk | hk
    · simp [hk, show k < off + (i + 1) by omega, show min (off + (i + 1)) cur.size = off + (i + 1) by omega, show min (off + i) cur.size = off + i by omega, show off + i ≠ k by omega, show k < off + (i + 1) + rest.length by omega, show k < off + i + (rest.length + 1) by omega]
    · subst hk
      simp [show off + i < off + (i + 1) by omega, show off + i < off + (i + 1) + rest.length by omega, show min (off + (i + 1)) cur.size = off + (i + 1) by omega, show min (off + i) cur.size = off + i by omega, hi]
    · simp only [show min (off + (i + 1)) cur.size = off + (i + 1) by omega, show min (off + i) cur.size = off + i by omega, show ¬ k < off + i by omega, show ¬ k < off + (i + 1) by omega, if_false, show k - (off + i) ≠ 0 by omega, show off + i ≠ off + (i + 1) + rest.length + (k - (off + (i + 1) + rest.length)) by omega, show k - (off + i) - 1 = k - (off + (i + 1)) by omega, show off + i + (rest.length + 1) = off + (i + 1) + rest.length by omega]
theorem run_sto (W : World) (g off : Nat) (ty t : TypeId) (cs : Array Value) (v : Value) (hg : W.heap[g]? = some (.cells cs t (0, 0))) (hi : (P.info? ty).map (·.size) = some v.cells.size) (hfit : off + v.cells.size ≤ cs.size) (h1 : v.cells.toList.all (·.oneCell') = true) :
    (storeVar ty ⟨g, off, none⟩ v).run P W = .ok () (W.setRow g (putSeg cs off v.cells.toList)) := by
  have := run_puts (P := P) g t v.cells.toList off 0 cs W hg (by simpa using hfit) (fun u hu => (List.all_eq_true.1 h1) u hu)
  cases hq : P.info? ty with
  | none => simp [hq] at hi
  | some i =>
    have hs : v.cells.size = i.size := by simp [hq] at hi; omega
    simp [storeVar, sizeOf, typeInfo, hq, hs, this]
end
section
variable {P : Program} {ops : Array Oper} {rest : List Oper} {o : Oper} {a : Act} {Q : Exit → Act → World → Prop} {w0 W : World} {L : List (Nat × Array Value × TypeId)}
theorem hp_guard {d : Option Tmp} {op : Op} {ty : TypeId} {pos : String} {aft : Array Edge} {j : Nat} {b : Bool} {W : World} (hw : Region.wanted ⟨d, op, ty, pos, aft, some (j, b)⟩ (yielded ops a.tmps) = true)
    (h : wpList P ops Q (⟨d, op, ty, pos, aft, none⟩ :: rest) a W) : wpList P ops Q (⟨d, op, ty, pos, aft, some (j, b)⟩ :: rest) a W := by
  have h1 : Region.wanted (⟨d, op, ty, pos, aft, none⟩ : Oper) (yielded ops a.tmps) = true := rfl
  unfold wpList at h ⊢
  rw [if_pos h1] at h
  rw [if_pos hw]
  exact h
theorem gate_draw {id : Nat} {l : Array Oper} {w : World} (h : (Code.region id l true).wp P Q a w) : (Code.region id l true).wp P Q a w := h
theorem hp_box (H : Hp w0 W L) (hgd : o.guard = none) {t : TypeId} {x : Operand} (ho : o.op = .box t x) {cs : Array Value} (hx : a.eval x = .agg cs)
    (h : ∀ g W', Hp w0 W' ((g, cs, t) :: L) → wpList P ops Q rest (a.put o.dst (.pointer (some ⟨g, 0, none⟩))) W') : wpList P ops Q (o :: rest) a W := by
  refine Kd.event_run hgd (w1 := W.alloc (.cells cs t (0, 0))) ?_ (h _ _ (H.alloc cs t))
  unfold execOp
  simp only [ho, Instr.box, newVar, newRow, hx]
  rfl
theorem hp_alloc (H : Hp w0 W L) (hgd : o.guard = none) {t : TypeId} (ho : o.op = .alloc t) {z : Value} (hz : ∀ w, (zeroValue t).run P w = .ok z w)
    (h : ∀ g W', Hp w0 W' ((g, z.cells, t) :: L) → wpList P ops Q rest (a.put o.dst (.pointer (some ⟨g, 0, none⟩))) W') : wpList P ops Q (o :: rest) a W := by
  refine Kd.event_run hgd (w1 := W.alloc (.cells z.cells t (0, 0))) ?_ (h _ _ (H.alloc z.cells t))
  unfold execOp
  simp [ho, Instr.alloc, hz, newVar, newRow, Sem.run_bind]
theorem hp_load (H : Hp w0 W L) (hgd : o.guard = none) {ty : TypeId} {x : Operand} (ho : o.op = .load ty x) {g off : Nat} (hx : a.eval x = .pointer (some ⟨g, off, none⟩)) {cs : Array Value} {t : TypeId} (hm : (g, cs, t) ∈ L)
    (hu : (match P.underlying ty with | some (.struct _) | some (.array _ _) | none => false | _ => true) = true) {v : Value} (hc : cs[off]? = some v)
    (h : wpList P ops Q rest (a.put o.dst v) W) : wpList P ops Q (o :: rest) a W := by
  refine Kd.event_run hgd ?_ h
  unfold execOp
  simp only [ho, hx, Instr.loadAt, Instr.sureAddr, Sem.run_bind, Sem.run_pure, Result.andThen_ok, run_one W g off ty t cs v (H.heap hm) hu hc]
theorem hp_loads (H : Hp w0 W L) (hgd : o.guard = none) {ty : TypeId} {x : Operand} (ho : o.op = .load ty x) {g off : Nat} (hx : a.eval x = .pointer (some ⟨g, off, none⟩)) {cs : Array Value} {t : TypeId} (hm : (g, cs, t) ∈ L)
    (hu : (match P.underlying ty with | some (.struct _) | some (.array _ _) => true | _ => false) = true) {n : Nat} (hi : (P.info? ty).map (·.size) = some n) (hfit : Nat.ble (off + n) cs.size = true) {cs' : Array Value} (hc : cs.extract off (off + n) = cs')
    (h : wpList P ops Q rest (a.put o.dst (.agg cs')) W) : wpList P ops Q (o :: rest) a W := by
  subst hc
  refine Kd.event_run hgd ?_ h
  unfold execOp
  simp only [ho, hx, Instr.loadAt, Instr.sureAddr, Sem.run_bind, Sem.run_pure, Result.andThen_ok, run_seg W g off n ty t cs (H.heap hm) hu hi (Nat.le_of_ble_eq_true hfit)]
theorem hp_whole (H : Hp w0 W L) (hgd : o.guard = none) {ty : TypeId} {x : Operand} (ho : o.op = .load ty x) {g : Nat} (hx : a.eval x = .pointer (some ⟨g, 0, none⟩)) {cs : Array Value} {t : TypeId} (hm : (g, cs, t) ∈ L)
    (hu : (match P.underlying ty with | some (.struct _) | some (.array _ _) => true | _ => false) = true) (hi : (P.info? ty).map (·.size) = some cs.size)
    (h : wpList P ops Q rest (a.put o.dst (.agg cs)) W) : wpList P ops Q (o :: rest) a W :=
  hp_loads H hgd ho hx hm hu hi (by rw [Nat.zero_add]; exact Nat.ble_eq_true_of_le (Nat.le_refl _)) (ext_all _ _ rfl) h
theorem hp_store (H : Hp w0 W L) (hgd : o.guard = none) {ty : TypeId} {x y : Operand} (ho : o.op = .store ty x y) (hd : o.dst = none) {g off : Nat} (hx : a.eval x = .pointer (some ⟨g, off, none⟩)) {cs : Array Value} {t : TypeId} {n : Nat} (hn : L[n]? = some (g, cs, t))
    {v : Value} (hy : a.eval y = v) (hi : (P.info? ty).map (·.size) = some v.cells.size) (hfit : off + v.cells.size ≤ cs.size) (h1 : v.cells.toList.all (·.oneCell') = true) {cs' : Array Value} (hc : putSeg cs off v.cells.toList = cs')
    {L' : List (Nat × Array Value × TypeId)} (hL : setL L n cs' = L')
    (h : ∀ W', Hp w0 W' L' → wpList P ops Q rest a W') : wpList P ops Q (o :: rest) a W := by
  subst hc hL hy
  have hm : (g, cs, t) ∈ L := (List.getElem?_eq_some_iff.1 hn).2 ▸ List.getElem_mem _
  refine wpList_plain hgd fun K hK => ?_
  unfold Oper.wp execOp
  simp only [ho, hx, Instr.storeAt, Instr.sureAddr, Sem.run_bind, Sem.run_pure, Result.andThen_ok, run_sto W g off ty t cs _ (H.heap hm) hi hfit h1]
  show K (a.put o.dst undef) _
  rw [hd]
  exact hK _ _ (h _ (H.row n hn _))
theorem hp_store0 {L2 : List (Nat × Array Value × TypeId)} {g off : Nat} {cs : Array Value} {t : TypeId} (H : Hp w0 W ((g, cs, t) :: L2)) (hgd : o.guard = none) {ty : TypeId} {x y : Operand} (ho : o.op = .store ty x y) (hd : o.dst = none) (hx : a.eval x = .pointer (some ⟨g, off, none⟩))
    {v : Value} (hy : a.eval y = v) (hi : (P.info? ty).map (·.size) = some v.cells.size) (hfit : Nat.ble (off + v.cells.size) cs.size = true) (h1 : v.cells.toList.all (·.oneCell') = true) {cs' : Array Value} (hc : putSeg cs off v.cells.toList = cs')
    (h : ∀ W', Hp w0 W' ((g, cs', t) :: L2) → wpList P ops Q rest a W') : wpList P ops Q (o :: rest) a W :=
  hp_store H hgd ho hd hx (n := 0) rfl hy hi (Nat.le_of_ble_eq_true hfit) h1 hc rfl h
theorem hp_store1 {L2 : List (Nat × Array Value × TypeId)} {x1 : Nat × Array Value × TypeId} {g off : Nat} {cs : Array Value} {t : TypeId} (H : Hp w0 W (x1 :: (g, cs, t) :: L2)) (hgd : o.guard = none) {ty : TypeId} {x y : Operand} (ho : o.op = .store ty x y) (hd : o.dst = none) (hx : a.eval x = .pointer (some ⟨g, off, none⟩))
    {v : Value} (hy : a.eval y = v) (hi : (P.info? ty).map (·.size) = some v.cells.size) (hfit : Nat.ble (off + v.cells.size) cs.size = true) (h1 : v.cells.toList.all (·.oneCell') = true) {cs' : Array Value} (hc : putSeg cs off v.cells.toList = cs')
    (h : ∀ W', Hp w0 W' (x1 :: (g, cs', t) :: L2) → wpList P ops Q rest a W') : wpList P ops Q (o :: rest) a W :=
  hp_store H hgd ho hd hx (n := 1) rfl hy hi (Nat.le_of_ble_eq_true hfit) h1 hc rfl h
theorem hp_store2 {L2 : List (Nat × Array Value × TypeId)} {x1 x2 : Nat × Array Value × TypeId} {g off : Nat} {cs : Array Value} {t : TypeId} (H : Hp w0 W (x1 :: x2 :: (g, cs, t) :: L2)) (hgd : o.guard = none) {ty : TypeId} {x y : Operand} (ho : o.op = .store ty x y) (hd : o.dst = none) (hx : a.eval x = .pointer (some ⟨g, off, none⟩))
    {v : Value} (hy : a.eval y = v) (hi : (P.info? ty).map (·.size) = some v.cells.size) (hfit : Nat.ble (off + v.cells.size) cs.size = true) (h1 : v.cells.toList.all (·.oneCell') = true) {cs' : Array Value} (hc : putSeg cs off v.cells.toList = cs')
    (h : ∀ W', Hp w0 W' (x1 :: x2 :: (g, cs', t) :: L2) → wpList P ops Q rest a W') : wpList P ops Q (o :: rest) a W :=
  hp_store H hgd ho hd hx (n := 2) rfl hy hi (Nat.le_of_ble_eq_true hfit) h1 hc rfl h
theorem hp_store3 {L2 : List (Nat × Array Value × TypeId)} {x1 x2 x3 : Nat × Array Value × TypeId} {g off : Nat} {cs : Array Value} {t : TypeId} (H : Hp w0 W (x1 :: x2 :: x3 :: (g, cs, t) :: L2)) (hgd : o.guard = none) {ty : TypeId} {x y : Operand} (ho : o.op = .store ty x y) (hd : o.dst = none) (hx : a.eval x = .pointer (some ⟨g, off, none⟩))
    {v : Value} (hy : a.eval y = v) (hi : (P.info? ty).map (·.size) = some v.cells.size) (hfit : Nat.ble (off + v.cells.size) cs.size = true) (h1 : v.cells.toList.all (·.oneCell') = true) {cs' : Array Value} (hc : putSeg cs off v.cells.toList = cs')
    (h : ∀ W', Hp w0 W' (x1 :: x2 :: x3 :: (g, cs', t) :: L2) → wpList P ops Q rest a W') : wpList P ops Q (o :: rest) a W :=
  hp_store H hgd ho hd hx (n := 3) rfl hy hi (Nat.le_of_ble_eq_true hfit) h1 hc rfl h
theorem hp_store4 {L2 : List (Nat × Array Value × TypeId)} {x1 x2 x3 x4 : Nat × Array Value × TypeId} {g off : Nat} {cs : Array Value} {t : TypeId} (H : Hp w0 W (x1 :: x2 :: x3 :: x4 :: (g, cs, t) :: L2)) (hgd : o.guard = none) {ty : TypeId} {x y : Operand} (ho : o.op = .store ty x y) (hd : o.dst = none) (hx : a.eval x = .pointer (some ⟨g, off, none⟩))
    {v : Value} (hy : a.eval y = v) (hi : (P.info? ty).map (·.size) = some v.cells.size) (hfit : Nat.ble (off + v.cells.size) cs.size = true) (h1 : v.cells.toList.all (·.oneCell') = true) {cs' : Array Value} (hc : putSeg cs off v.cells.toList = cs')
    (h : ∀ W', Hp w0 W' (x1 :: x2 :: x3 :: x4 :: (g, cs', t) :: L2) → wpList P ops Q rest a W') : wpList P ops Q (o :: rest) a W :=
  hp_store H hgd ho hd hx (n := 4) rfl hy hi (Nat.le_of_ble_eq_true hfit) h1 hc rfl h
theorem hp_goes (H : Hp w0 W L) (hgd : o.guard = none) {f : FuncId} {as : Array Operand} {ts : Array TypeId} (ho : o.op = .call { callee := .value (.func f), args := as, argTypes := ts }) {fn : Func} (hf : P.funcs[f]? = some fn) (hname : (fn.name == "runtime.NumGoroutine") = false) (hb : fn.body.isSome = true)
    {args : Array Value} {post : Ending → World → Prop} (hc : Calls P f args W post) (hargs : as.map a.eval = args)
    (h : ∀ e w', post e w' → ∃ v, e = .returned v ∧ Below W.heap.size W w' ∧ (Hp w0 w' L → wpList P ops Q rest (a.put o.dst v) w')) : wpList P ops Q (o :: rest) a W := by
  refine goesL_ o.dst rfl hgd hf hname hb args ho hargs (hc.mono fun e w' hp => ?_)
  obtain ⟨v, hv, hbl, hk⟩ := h e w' hp
  exact ⟨v, hv, hk (H.call hbl)⟩
theorem hp_lit (H : Hp w0 W L) (hgd : o.guard = none) {t : TypeId} {m : Nat} {ps : Array (Nat × Operand)} (ho : o.op = .buildSlice t m ps) {cs : Array Value} {e : TypeId}
    (hrun : (execOp a.eval o).run P W = .ok (.value (.slice (some ⟨W.heap.size, 0, none⟩) m m)) (W.alloc (.cells cs e (0, 0))))
    (h : ∀ g W', Hp w0 W' ((g, cs, e) :: L) → wpList P ops Q rest (a.put o.dst (.slice (some ⟨g, 0, none⟩) m m)) W') : wpList P ops Q (o :: rest) a W :=
  Kd.event_run hgd hrun (h _ _ (H.alloc cs e))
end
/-- A row that is read: as many elements as the slice has, room for them. -/
def RdS (k : IntKind) (w : World) (A : Option Addr) (n c : Nat) (l : List Int) : Prop := n = l.length ∧ n ≤ c ∧ c ≤ 9223372036854775807 ∧ Kd.C (Kd.int k) w A l.length l
theorem RdS.below {k : IntKind} {w w' : World} {A : Option Addr} {n c : Nat} {l : List Int} (h : RdS k w A n c l) (hb : Below w.heap.size w w') : RdS k w' A n c l := ⟨h.1, h.2.1, h.2.2.1, Kd.C_below h.2.2.2 hb⟩
theorem RdS.clip {k : IntKind} {w : World} {A : Option Addr} {n c : Nat} {l : List Int} (h : RdS k w A n c l) : RdS k w A n n l := ⟨h.1, Nat.le_refl _, Nat.le_trans h.2.1 h.2.2.1, h.2.2.2⟩
theorem RdS.nil (k : IntKind) (w : World) : RdS k w none 0 0 [] := ⟨rfl, Nat.le_refl _, by decide, Kd.C_nil _ _⟩
theorem RdS.at_ {k : IntKind} {w : World} {A : Option Addr} {n c : Nat} {l : List Int} (h : RdS k w A n c l) (i : Int) (h0 : 0 ≤ i) (h1 : i < n) : ∃ ad, A = some ad ∧ w.cell? (ad.add i.toNat) = some (.int k (rd l i)) := Kd.at_int h.2.2.2 i h0 (by have := h.1; omega)
section
variable {w0 W W' : World} {L : List (Nat × Array Value × TypeId)} {g n cap : Nat} {cur : Array Value} {e : TypeId} {k : IntKind} {l : List Int}
/-- A row in a block of the call's own is read. -/
theorem Hp.rds (H : Hp w0 W L) (hm : (g, cur, e) ∈ L) (ht : cur.toList.take n = nums k l) (hn : n = l.length) (hc : n ≤ cap) (hmx : cap ≤ 9223372036854775807) : RdS k W (some ⟨g, 0, none⟩) n cap l := by
  refine ⟨hn, hc, hmx, Kd.C_of_reads (enc := Value.int k) (d := (0 : Int)) (h1 := fun _ => rfl) ⟨rfl, by omega, fun _ => ⟨_, rfl, fun j hj => ?_⟩⟩⟩
  rw [add_any, Nat.zero_add]
  refine H.cell hm j ?_
  have h : (cur.toList.take n)[j]? = some (.int k (l.getD j 0)) := by
    rw [ht, nums, List.getElem?_map, List.getD_eq_getElem?_getD, List.getElem?_eq_getElem hj]
    rfl
  rw [List.getElem?_take, if_pos (by omega)] at h
  rw [← Array.getElem?_toList]
  exact h
/-- A row that a call has made is a block of the call's own. -/
theorem Hp.made (H : Hp w0 W L) (hb : Below W.heap.size W W') {v : Value} (ho : W'.ownsRow W.heap.size e 1 v n (nums k l)) :
    (v = .slice none 0 0 ∧ l = [] ∧ n = 0 ∧ Hp w0 W' L) ∨ ∃ g cur cap, v = .slice (some ⟨g, 0, none⟩) n cap ∧ Hp w0 W' ((g, cur, e) :: L) ∧ cur.toList.take n = nums k l ∧ n = l.length ∧ n ≤ cap ∧ cap ≤ 9223372036854775807 := by
  obtain ⟨hl, ⟨rfl, rfl⟩ | ⟨g, cap, cur, rfl, hg, hh, h1, h2, hs, ht⟩⟩ := ho
  · refine .inl ⟨rfl, ?_, rfl, H.call hb⟩
    rw [nums_length] at hl
    exact List.eq_nil_of_length_eq_zero (by omega)
  · refine .inr ⟨g, cur, cap, rfl, ⟨below_step H.below hb, fun x hx => ?_, .cons (fun x hx => ?_) H.nd⟩, by rw [Nat.mul_one] at ht; exact ht, by rw [nums_length] at hl; omega, h1, by simpa [maxLen] using h2⟩
    · rcases List.mem_cons.1 hx with rfl | hx
      · exact ⟨Nat.le_trans H.below.size hg, hh⟩
      · exact ⟨(H.blk x hx).1, blk_below (H.blk x hx).2 hb⟩
    · have := blk_lt (H.blk x hx).2
      simp only
      omega
end
section
variable {P : Program} {ops : Array Oper} {rest : List Oper} {o : Oper} {a : Act} {Q : Exit → Act → World → Prop} {w0 W : World} {L : List (Nat × Array Value × TypeId)}
/-- append(s, v), s without room: a new row. -/
theorem hp_grow (H : Hp w0 W L) (hgd : o.guard = none) {s x : Operand} {t : TypeId} (ho : o.op = .call { callee := .builtin .append, args := #[s, x], argTypes := #[t, t] }) {e : TypeId} (ht : P.underlying t = some (.slice e)) {k : IntKind} (bytes : Nat) (hi : (P.info? e).map (fun i => (i.zero, i.size, i.bytes)) = some (some (.int k 0), 1, bytes))
    {A : Option Addr} {n : Nat} (hs : a.eval s = .slice A n n) {l : List Int} (hr : RdS k W A n n l) {g : Nat} (hx : a.eval x = .slice (some ⟨g, 0, none⟩) 1 1) {v : Int} {e' : TypeId} (hm : (g, #[.int k v], e') ∈ L) (hb : (n + 1) * bytes ≤ 140737488355328) (hb0 : 0 < bytes)
    (h : ∀ g' cur cap W', cur.toList.take (n + 1) = nums k (l ++ [v]) → n + 1 ≤ cap → cap ≤ 9223372036854775807 → Hp w0 W' ((g', cur, e) :: L) → wpList P ops Q rest (a.put o.dst (.slice (some ⟨g', 0, none⟩) (n + 1) cap)) W') : wpList P ops Q (o :: rest) a W := by
  obtain ⟨i, hi1, hz, hsz, hby⟩ : ∃ i, P.info? e = some i ∧ i.zero = some (.int k 0) ∧ i.size = 1 ∧ i.bytes = bytes := by
    cases hq : P.info? e with
    | none => simp [hq] at hi
    | some i => simp [hq] at hi; exact ⟨i, rfl, hi.1, hi.2.1, hi.2.2⟩
  have hnl : n = l.length := hr.1
  have hn1 : n + 1 ≤ 140737488355328 := by
    rcases Nat.eq_or_lt_of_le (Nat.succ_le_of_lt hb0) with h1 | h1
    · rw [← h1] at hb; omega
    · have := Nat.mul_le_mul_left (n + 1) (Nat.le_of_lt h1); omega
  refine wpList_append_grows W hgd s x t ho e i (.int k 0) 1 bytes ht hi1 hz hsz hby rfl (by omega) A n n (nums k l) hs (fun e1 => ?_) (by rw [nums_length]; omega) (fun b e1 j u hj => ?_) ⟨g, 0, none⟩ 1 1 [.int k v] hx rfl (fun j u hj => ?_) (by simp [Value.oneCell']) (by omega) (by unfold maxLen; omega) hb ?_
  · rcases Nat.eq_zero_or_pos n with h0 | h0
    · exact ⟨h0, h0⟩
    · obtain ⟨ad, h1, _⟩ := hr.at_ 0 (by omega) (by omega)
      rw [e1] at h1
      cases h1
  · have hj1 : j < l.length := by rw [← nums_length k]; exact (List.getElem?_eq_some_iff.1 hj).1
    obtain ⟨ad, h1, h2⟩ := hr.at_ (j : Int) (by omega) (by omega)
    rw [e1] at h1
    obtain rfl := Option.some.inj h1
    rw [Int.toNat_natCast] at h2
    rw [h2]
    rw [nums, List.getElem?_map, List.getElem?_eq_getElem hj1] at hj
    rw [← Option.some.inj hj]
    unfold rd
    rw [Int.toNat_natCast, List.getD_eq_getElem?_getD, List.getElem?_eq_getElem hj1]
    rfl
  · rw [add_any, Nat.zero_add]
    refine H.cell hm j ?_
    rw [← Array.getElem?_toList]
    exact hj
  · intro v' w' hown hg
    have hbl : Below W.heap.size W w' := (Below.refl _ _).grown hg (Nat.le_refl _) (fun _ h => by cases h)
    have hown' : w'.ownsRow W.heap.size e 1 v' (n + 1) (nums k (l ++ [v])) := by rw [nums_append]; exact hown
    rcases H.made hbl hown' with ⟨_, h0, _⟩ | ⟨g', cur, cap, rfl, h1, h2, h3, h4, h5⟩
    · simp at h0
    · exact h g' cur cap w' h2 h4 h5 h1
end
section
variable {P : Program}
theorem run_cellvar (w : World) (g : Nat) (t ty : TypeId) (cs : Array Value) (hg : w.heap[g]? = some (.cells cs t (0, 0))) (hu : (match P.underlying ty with | some (.struct _) | some (.array _ _) => true | _ => false) = true) (hi : (P.info? ty).map (·.size) = some cs.size) : (loadVar ty ⟨g, 0, none⟩).run P w = .ok (.agg cs) w := by
  have h := run_seg (P := P) w g 0 cs.size ty t cs hg hu hi (by omega)
  rwa [ext_all cs cs.size rfl] at h
/-- Two results: a struct in a cell, a value in a slot. -/
theorem hp_results2 {fn : Func} {p q : Tmp} {ty : TypeId} (h : fn.results = #[.cell p ty, .tmp q]) (tmps : Array Value) (w : World) (g : Nat) (t : TypeId) (cs : Array Value) (v : Value)
    (hp : tmps.getD p undef = .pointer (some ⟨g, 0, none⟩)) (hq : tmps.getD q undef = v) (hg : w.heap[g]? = some (.cells cs t (0, 0)))
    (hu : (match P.underlying ty with | some (.struct _) | some (.array _ _) => true | _ => false) = true) (hi : (P.info? ty).map (·.size) = some cs.size) :
    (results fn tmps).run P w = .ok (.tuple #[.agg cs, v]) w := by
  subst hq
  have hp' : tmps[p]?.getD undef = .pointer (some ⟨g, 0, none⟩) := by simpa using hp
  simp [results, h, hp', asAddr, run_cellvar w g t ty cs hg hu hi]
end
section
variable {P : Program} {ops : Array Oper} {rest : List Oper} {o : Oper} {a : Act} {Q : Exit → Act → World → Prop} {w0 W : World} {L : List (Nat × Array Value × TypeId)}
/-- A call that hands back a row of its own. -/
theorem hp_goesR (H : Hp w0 W L) (hgd : o.guard = none) {f : FuncId} {as : Array Operand} {ts : Array TypeId} (ho : o.op = .call { callee := .value (.func f), args := as, argTypes := ts }) {fn : Func} (hf : P.funcs[f]? = some fn) (hname : (fn.name == "runtime.NumGoroutine") = false) (hb : fn.body.isSome = true)
    {args : Array Value} {e : TypeId} {n : Nat} {k : IntKind} {l : List Int} (hc : Calls P f args W fun e' w' => ∃ v, e' = .returned v ∧ w'.ownsRow W.heap.size e 1 v n (nums k l) ∧ Below W.heap.size W w') (hargs : as.map a.eval = args)
    (h0 : ∀ W', l = [] → n = 0 → Hp w0 W' L → wpList P ops Q rest (a.put o.dst (.slice none 0 0)) W')
    (h1 : ∀ g cur cap W', cur.toList.take n = nums k l → n = l.length → n ≤ cap → cap ≤ 9223372036854775807 → Hp w0 W' ((g, cur, e) :: L) → wpList P ops Q rest (a.put o.dst (.slice (some ⟨g, 0, none⟩) n cap)) W') : wpList P ops Q (o :: rest) a W := by
  refine goesL_ o.dst rfl hgd hf hname hb args ho hargs (hc.mono fun e' w' hp => ?_)
  obtain ⟨v, hv, how, hbl⟩ := hp
  refine ⟨v, hv, ?_⟩
  rcases H.made hbl how with ⟨rfl, hl, hn, H'⟩ | ⟨g, cur, cap, rfl, H', ht, hn, hc1, hc2⟩
  · exact h0 w' hl hn H'
  · exact h1 g cur cap w' ht hn hc1 hc2 H'
end
end Go.Proofs.Ytcagccodmmcnfaa.Hp
end
section
/- The same steps in a region that draws its order: for go_region_held3. Own work; a template. -/
namespace Go.Proofs.Ytcagccodmmcnfaa.Hp
open Go.RowKit Go.Proofs.YtcagccodmmcnfaaW.PrintWords Go.Proofs.YtcagccodmmcnfaaW.PrintLast
set_option linter.unusedVariables false
section
variable {w0 W W' : World} {L : List (Nat × Array Value × TypeId)} {a1 a2 a3 a4 a5 : Addr} {v1 v2 v3 v4 v5 : Value}
theorem keepE (hb : Below W.heap.size W W') (h : (∃ L, Hp w0 W L) ∧ W.cell? a1 = some v1 ∧ W.cell? a2 = some v2 ∧ W.cell? a3 = some v3 ∧ W.cell? a4 = some v4) : (∃ L, Hp w0 W' L) ∧ W'.cell? a1 = some v1 ∧ W'.cell? a2 = some v2 ∧ W'.cell? a3 = some v3 ∧ W'.cell? a4 = some v4 := ⟨h.1.imp fun _ H => H.call hb, pw_cell_below hb h.2.1, pw_cell_below hb h.2.2.1, pw_cell_below hb h.2.2.2.1, pw_cell_below hb h.2.2.2.2⟩
end
theorem Hp.own {w0 W W' : World} {L : List (Nat × Array Value × TypeId)} {g : Nat} {cur : Array Value} {e : TypeId} (H : Hp w0 W L) (hb : Below W.heap.size W W') (hg : W.heap.size ≤ g) (hh : W'.heap[g]? = some (.cells cur e (0, 0))) : Hp w0 W' ((g, cur, e) :: L) :=
  ⟨below_step H.below hb, fun x hx => by
    rcases List.mem_cons.1 hx with rfl | hx
    · exact ⟨Nat.le_trans H.below.size hg, hh⟩
    · exact ⟨(H.blk x hx).1, blk_below (H.blk x hx).2 hb⟩,
   .cons (fun x hx => by have := blk_lt (H.blk x hx).2; simp only; omega) H.nd⟩
section
variable {P : Program} {ops : Array Oper} {o : Oper} {a : Act} {K : Act → World → Prop} {Q : Exit → Act → World → Prop} {E R : Prop} {w0 W : World} {L : List (Nat × Array Value × TypeId)}
theorem hs_grow (hS : Hp w0 W L ∧ R) (hgd : o.guard = none) {s x : Operand} {t : TypeId} (ho : o.op = .call { callee := .builtin .append, args := #[s, x], argTypes := #[t, t] }) {e : TypeId} (ht : P.underlying t = some (.slice e)) {k : IntKind} (bytes : Nat) (hi : (P.info? e).map (fun i => (i.zero, i.size, i.bytes)) = some (some (.int k 0), 1, bytes))
    {A : Option Addr} {n : Nat} (hs : a.eval s = .slice A n n) {l : List Int} (hr : Hp w0 W L → RdS k W A n n l) {ad : Addr} (hx : a.eval x = .slice (some ad) 1 1) {v : Int} (hc : W.cell? ad = some (.int k v)) (hb : (n + 1) * bytes ≤ 140737488355328) (hb0 : 0 < bytes)
    (h : ∀ g' cur cap W', cur.toList.take (n + 1) = nums k (l ++ [v]) → n + 1 ≤ cap → cap ≤ 9223372036854775807 → Below W.heap.size W W' → Hp w0 W' ((g', cur, e) :: L) → K (a.put o.dst (.slice (some ⟨g', 0, none⟩) (n + 1) cap)) W') : if Region.wanted o (yielded ops a.tmps) = true then Oper.wp P o a W K Q else E := by
  have H := hS.1
  have hr := hr H
  obtain ⟨i, hi1, hz, hsz, hby⟩ : ∃ i, P.info? e = some i ∧ i.zero = some (.int k 0) ∧ i.size = 1 ∧ i.bytes = bytes := by
    cases hq : P.info? e with
    | none => simp [hq] at hi
    | some i => simp [hq] at hi; exact ⟨i, rfl, hi.1, hi.2.1, hi.2.2⟩
  have hnl : n = l.length := hr.1
  have hn1 : n + 1 ≤ 140737488355328 := by
    rcases Nat.eq_or_lt_of_le (Nat.succ_le_of_lt hb0) with h1 | h1
    · rw [← h1] at hb; omega
    · have := Nat.mul_le_mul_left (n + 1) (Nat.le_of_lt h1); omega
  refine step_append_grows hgd s x t ho e i (.int k 0) 1 bytes ht hi1 hz hsz hby rfl (by omega) A n n (nums k l) hs (fun e1 => ?_) (by rw [nums_length]; omega) (fun b e1 j u hj => ?_) ad 1 1 [.int k v] hx rfl (fun j u hj => ?_) (by simp [Value.oneCell']) (by omega) (by unfold maxLen; omega) hb ?_
  · rcases Nat.eq_zero_or_pos n with h0 | h0
    · exact ⟨h0, h0⟩
    · obtain ⟨ad, h1, _⟩ := hr.at_ 0 (by omega) (by omega)
      rw [e1] at h1
      cases h1
  · have hj1 : j < l.length := by rw [← nums_length k]; exact (List.getElem?_eq_some_iff.1 hj).1
    obtain ⟨ad, h1, h2⟩ := hr.at_ (j : Int) (by omega) (by omega)
    rw [e1] at h1
    obtain rfl := Option.some.inj h1
    rw [Int.toNat_natCast] at h2
    rw [h2]
    rw [nums, List.getElem?_map, List.getElem?_eq_getElem hj1] at hj
    rw [← Option.some.inj hj]
    unfold rd
    rw [Int.toNat_natCast, List.getD_eq_getElem?_getD, List.getElem?_eq_getElem hj1]
    rfl
  · obtain ⟨rfl, rfl⟩ : j = 0 ∧ Value.int k v = u := by
      cases j with
      | zero => exact ⟨rfl, by simpa using hj⟩
      | succ j => simp at hj
    exact hc
  · intro v' w' hown hg
    have hbl : Below W.heap.size W w' := (Below.refl _ _).grown hg (Nat.le_refl _) (fun _ h => by cases h)
    have hown' : w'.ownsRow W.heap.size e 1 v' (n + 1) (nums k (l ++ [v])) := by rw [nums_append]; exact hown
    rcases H.made hbl hown' with ⟨_, h0, _⟩ | ⟨g', cur, cap, rfl, h1, h2, h3, h4, h5⟩
    · simp at h0
    · exact h g' cur cap w' h2 h4 h5 hbl h1
theorem hs_goes0 (hgd : o.guard = none) {f : FuncId} {as : Array Operand} {ts : Array TypeId} (ho : o.op = .call { callee := .value (.func f), args := as, argTypes := ts }) {fn : Func} (hf : P.funcs[f]? = some fn) (hname : (fn.name == "runtime.NumGoroutine") = false) (hb : fn.body.isSome = true)
    {args : Array Value} {post : Ending → World → Prop} (hc : Calls P f args W post) (hargs : as.map a.eval = args)
    (h : ∀ e w', post e w' → ∃ v, e = .returned v ∧ K (a.put o.dst v) w') : if Region.wanted o (yielded ops a.tmps) = true then Oper.wp P o a W K Q else E := by
  have hw : Region.wanted o (yielded ops a.tmps) = true := by simp [Region.wanted, hgd]
  rw [if_pos hw]
  have he := enters_ hf hname hb args W
  have hrun : (execOp a.eval o).run P W = .ok (.enter f args) W := by
    unfold execOp
    simp [ho, resolve, Deferred.ofValue, invoke, Act.eval, hargs, he]
  unfold Oper.wp
  rw [hrun, Oper.upon_enter]
  refine hc.mono fun e w'' hh => ?_
  obtain ⟨v, rfl, hk⟩ := h e w'' hh
  exact hk
end
end Go.Proofs.Ytcagccodmmcnfaa.Hp
end
section
/- A region that draws, walked by hand: reads first, then calls and stores. Own work; a template. -/
namespace Go.Proofs.Ytcagccodmmcnfaa.Hp
open Go.RowKit Go.Proofs.YtcagccodmmcnfaaW.PrintWords Go.Proofs.YtcagccodmmcnfaaW.PrintLast
set_option linter.unusedVariables false
section
variable {P : Program} {ops : Array Oper} {o : Oper} {a : Act} {K : Act → World → Prop} {Q : Exit → Act → World → Prop} {E : Prop} {w0 W : World} {L : List (Nat × Array Value × TypeId)} {S : World → Prop}
/-- The n-th of a list, by its own recursion: so that 'rfl' finds the operation written out. -/
def nthO : List Oper → Nat → Option Oper
  | [], _ => none
  | o :: _, 0 => some o
  | _ :: l, n + 1 => nthO l n
theorem nthO_get : ∀ (l : List Oper) (n : Nat), nthO l n = l.toArray[n]?
  | [], _ => rfl
  | _ :: _, 0 => by simp [nthO]
  | _ :: l, n + 1 => by
    have := nthO_get l n
    simp [nthO] at this ⊢
    exact this
theorem hk_take {l : List Oper} {md : Region.Mode} {fuel : Nat} {listed : Array Bool} {i : Nat} {oi : Oper} {v : Value} (hi : nthO l i = some oi)
    (hs : Region.noSelect l.toArray = true) (hf : Region.free md l.toArray listed i = true) (hr : (Region.ready md l.toArray listed).contains i = true)
    (hQ : ∀ c a w, Q (.panic c) (a.put oi.dst v) w → Q (.panic c) a w) (hy : YieldsIf P l.toArray S oi v a) (hS : S W)
    (h : wpAnyH P md l.toArray Q S fuel (listed.setIfInBounds i true) (a.put oi.dst v) W) : wpAnyH P md l.toArray Q S (fuel + 1) listed a W :=
  wpAnyH_take ((nthO_get l i).symm.trans hi) hs hf hr hQ hy hS h
theorem hk_op {l : List Oper} {md : Region.Mode} {fuel : Nat} {listed : Array Bool} {i : Nat} {o : Oper} (ho : nthO l i = some o) (hr : Region.ready md l.toArray listed = [i])
    (h : ∀ K' : Act → World → Prop, Shut (∀ a w, S w → (S w → wpAnyH P md l.toArray Q S fuel (listed.setIfInBounds i true) a w) → K' a w) → if Region.wanted o (yielded l.toArray a.tmps) = true then Oper.wp P o a W K' Q else K' (a.put o.dst undef) W) : wpAnyH P md l.toArray Q S (fuel + 1) listed a W :=
  wpAnyH_ready hr (by simp) (AllReadyH.cons ((nthO_get l i).symm.trans ho) h AllReadyH.nil)
theorem yl_loads (hw : Region.wanted o (yielded ops a.tmps) = true) {ty : TypeId} {x : Operand} (ho : o.op = .load ty x) {g off : Nat} (hx : a.eval x = .pointer (some ⟨g, off, none⟩)) {cs : Array Value} {t : TypeId} (hS : ∀ w, S w → w.heap[g]? = some (.cells cs t (0, 0)))
    (hu : (match P.underlying ty with | some (.struct _) | some (.array _ _) => true | _ => false) = true) {n : Nat} (hi : (P.info? ty).map (·.size) = some n) (hfit : Nat.ble (off + n) cs.size = true) {cs' : Array Value} (hc : cs.extract off (off + n) = cs') : YieldsIf P ops S o (.agg cs') a := by
  subst hc
  refine .inl ⟨hw, fun w hs => ?_⟩
  unfold execOp
  simp only [ho, hx, Instr.loadAt, Instr.sureAddr, Sem.run_bind, Sem.run_pure, Result.andThen_ok, run_seg w g off n ty t cs (hS w hs) hu hi (Nat.le_of_ble_eq_true hfit)]
theorem yl_whole (hw : Region.wanted o (yielded ops a.tmps) = true) {ty : TypeId} {x : Operand} (ho : o.op = .load ty x) {g : Nat} (hx : a.eval x = .pointer (some ⟨g, 0, none⟩)) {cs : Array Value} {t : TypeId} (hS : ∀ w, S w → w.heap[g]? = some (.cells cs t (0, 0)))
    (hu : (match P.underlying ty with | some (.struct _) | some (.array _ _) => true | _ => false) = true) (hi : (P.info? ty).map (·.size) = some cs.size) : YieldsIf P ops S o (.agg cs) a :=
  yl_loads hw ho hx hS hu hi (by rw [Nat.zero_add]; exact Nat.ble_eq_true_of_le (Nat.le_refl _)) (ext_all _ _ rfl)
theorem yl_load (hw : Region.wanted o (yielded ops a.tmps) = true) {ty : TypeId} {x : Operand} (ho : o.op = .load ty x) {g off : Nat} (hx : a.eval x = .pointer (some ⟨g, off, none⟩)) {cs : Array Value} {t : TypeId} (hS : ∀ w, S w → w.heap[g]? = some (.cells cs t (0, 0)))
    (hu : (match P.underlying ty with | some (.struct _) | some (.array _ _) | none => false | _ => true) = true) {v : Value} (hc : cs[off]? = some v) : YieldsIf P ops S o v a := by
  refine .inl ⟨hw, fun w hs => ?_⟩
  unfold execOp
  simp only [ho, hx, Instr.loadAt, Instr.sureAddr, Sem.run_bind, Sem.run_pure, Result.andThen_ok, run_one w g off ty t cs v (hS w hs) hu hc]
theorem hs_store (H : Hp w0 W L) (hgd : o.guard = none) {ty : TypeId} {x y : Operand} (ho : o.op = .store ty x y) (hd : o.dst = none) {g off : Nat} (hx : a.eval x = .pointer (some ⟨g, off, none⟩)) {cs : Array Value} {t : TypeId} {n : Nat} (hn : L[n]? = some (g, cs, t))
    {v : Value} (hy : a.eval y = v) (hi : (P.info? ty).map (·.size) = some v.cells.size) (hfit : Nat.ble (off + v.cells.size) cs.size = true) (h1 : v.cells.toList.all (·.oneCell') = true) {cs' : Array Value} (hc : putSeg cs off v.cells.toList = cs')
    {L' : List (Nat × Array Value × TypeId)} (hL : setL L n cs' = L')
    (h : ∀ W', Hp w0 W' L' → K a W') : if Region.wanted o (yielded ops a.tmps) = true then Oper.wp P o a W K Q else E := by
  subst hc hL hy
  have hm : (g, cs, t) ∈ L := (List.getElem?_eq_some_iff.1 hn).2 ▸ List.getElem_mem _
  have hw : Region.wanted o (yielded ops a.tmps) = true := by simp [Region.wanted, hgd]
  rw [if_pos hw]
  unfold Oper.wp execOp
  simp only [ho, hx, Instr.storeAt, Instr.sureAddr, Sem.run_bind, Sem.run_pure, Result.andThen_ok, run_sto W g off ty t cs _ (H.heap hm) hi (Nat.le_of_ble_eq_true hfit) h1]
  show K (a.put o.dst undef) _
  rw [hd]
  exact h _ (H.row n hn _)
theorem hp_storeF {rest : List Oper} (H : Hp w0 W L) (hgd : o.guard = none) {ty : TypeId} {x y : Operand} (ho : o.op = .store ty x y) (hd : o.dst = none) {g off : Nat} (hx : a.eval x = .pointer (some ⟨g, off, none⟩)) {cs : Array Value} {t : TypeId} {n : Nat} (hn : L[n]? = some (g, cs, t))
    {v : Value} (hy : a.eval y = v) (hi : (P.info? ty).map (·.size) = some v.cells.size) (hfit : Nat.ble (off + v.cells.size) cs.size = true) (h1 : v.cells.toList.all (·.oneCell') = true) {cs' : Array Value} (hc : putSeg cs off v.cells.toList = cs')
    {L' : List (Nat × Array Value × TypeId)} (hL : setL L n cs' = L')
    (h : ∀ W', Hp w0 W' L' → (∀ b, b ≠ g → W'.heap[b]? = W.heap[b]?) → W'.heap.size = W.heap.size → wpList P ops (fun e a w => Q e a w) rest a W') : wpList P ops (fun e a w => Q e a w) (o :: rest) a W := by
  subst hc hL hy
  have hm : (g, cs, t) ∈ L := (List.getElem?_eq_some_iff.1 hn).2 ▸ List.getElem_mem _
  refine wpList_plain hgd fun K hK => ?_
  unfold Oper.wp execOp
  simp only [ho, hx, Instr.storeAt, Instr.sureAddr, Sem.run_bind, Sem.run_pure, Result.andThen_ok, run_sto W g off ty t cs _ (H.heap hm) hi (Nat.le_of_ble_eq_true hfit) h1]
  show K (a.put o.dst undef) _
  rw [hd]
  exact hK _ _ (h _ (H.row n hn _) (fun b hb => setRow_other _ _ _ _ hb) (by simp))
end
end Go.Proofs.Ytcagccodmmcnfaa.Hp
end
section
/- Arrays of numbers compared. Own work; a template. -/
namespace Go.Proofs.Ytcagccodmmcnfaa.Hp
open Go.RowKit Go.Proofs.YtcagccodmmcnfaaW.PrintWords Go.Proofs.YtcagccodmmcnfaaW.PrintLast
section
variable {P : Program} {W : World}
end
end Go.Proofs.Ytcagccodmmcnfaa.Hp
end
section
/- append: an own row and what is read. Own work; a template. -/
namespace Go.Proofs.Ytcagccodmmcnfaa.Hp
open Go.RowKit Go.Proofs.YtcagccodmmcnfaaW.PrintWords Go.Proofs.YtcagccodmmcnfaaW.PrintLast Go.Builtin
set_option linter.unusedVariables false
theorem Hp.perm {w0 W : World} {L L' : List (Nat × Array Value × TypeId)} (H : Hp w0 W L) (h : L.Perm L') : Hp w0 W L' :=
  ⟨H.below, fun x hx => H.blk x (h.mem_iff.2 hx), h.pairwise H.nd (fun h => h.symm)⟩
section
variable {P : Program} {w0 W : World} {L : List (Nat × Array Value × TypeId)}
theorem rds_cells {k : IntKind} {A : Option Addr} {m c : Nat} {l : List Int} (hr : RdS k W A m c l) {ad : Addr} (ha : A = some ad) : ∀ j u, (nums k l)[j]? = some u → W.cell? (ad.add j) = some u := by
  intro j u hj
  have hj1 : j < l.length := by rw [← nums_length k]; exact (List.getElem?_eq_some_iff.1 hj).1
  obtain ⟨ad', h1, h2⟩ := hr.at_ (j : Int) (by omega) (by have := hr.1; omega)
  rw [ha] at h1
  obtain rfl := Option.some.inj h1
  rw [Int.toNat_natCast] at h2
  rw [h2]
  rw [nums, List.getElem?_map, List.getElem?_eq_getElem hj1] at hj
  rw [← Option.some.inj hj]
  unfold rd
  rw [Int.toNat_natCast, List.getD_eq_getElem?_getD, List.getElem?_eq_getElem hj1]
  rfl
theorem one_nums (k : IntKind) (l : List Int) : ∀ u ∈ nums k l, u.oneCell' = true := by
  intro u hu
  obtain ⟨x, _, rfl⟩ := List.mem_map.1 hu
  rfl
/-- A row of the call's own: its slice, its cells. -/
structure Own (k : IntKind) (e : TypeId) (g : Nat) (cur : Array Value) (n cap : Nat) (l : List Int) : Prop where
  take : cur.toList.take n = nums k l
  len : n = l.length
  le : n ≤ cap
  size : cur.size = cap
  max : cap ≤ 9223372036854775807
theorem Own.of {k : IntKind} {e : TypeId} {g : Nat} {cur : Array Value} {n cap b : Nat} {l : List Int} {W : World} (h : W.ownsRow b e 1 (.slice (some ⟨g, 0, none⟩) n cap) n (nums k l)) (hg : W.heap[g]? = some (.cells cur e (0, 0))) : Own k e g cur n cap l := by
  obtain ⟨hl, ⟨h, _⟩ | ⟨g', cap', cur', h, _, hh, h1, h2, hs, ht⟩⟩ := h
  · cases h
  · simp only [Value.slice.injEq, Option.some.injEq, Addr.mk.injEq, and_true, true_and] at h
    obtain ⟨rfl, rfl⟩ := h
    rw [hg] at hh
    simp only [Option.some.injEq, Obj.cells.injEq, and_true] at hh
    obtain rfl := hh
    rw [nums_length] at hl
    exact ⟨by rw [← ht, Nat.mul_one], by omega, h1, by omega, by simpa [maxLen] using h2⟩
theorem Hp.own' {g : Nat} {cur : Array Value} {e : TypeId} {k : IntKind} {n cap : Nat} {l : List Int} (H : Hp w0 W L) (hm : (g, cur, e) ∈ L) (ho : Own k e g cur n cap l) : W.ownsRow w0.heap.size e 1 (.slice (some ⟨g, 0, none⟩) n cap) n (nums k l) :=
  ⟨by rw [nums_length]; have := ho.len; omega, .inr ⟨g, cap, cur, rfl, (H.blk _ hm).1, H.heap hm, ho.le, by have := ho.max; simpa [maxLen] using this, by have := ho.size; omega, by rw [Nat.mul_one]; exact ho.take⟩⟩
theorem Hp.rdsO {g : Nat} {cur : Array Value} {e : TypeId} {k : IntKind} {n cap : Nat} {l : List Int} (H : Hp w0 W L) (hm : (g, cur, e) ∈ L) (ho : Own k e g cur n cap l) : RdS k W (some ⟨g, 0, none⟩) n cap l := H.rds hm ho.take ho.len ho.le ho.max
theorem Hp.rdsOF {W9 : World} {g : Nat} {cur : Array Value} {e : TypeId} {k : IntKind} {n cap : Nat} {l : List Int} (hg : W9.heap[g]? = some (.cells cur e (0, 0))) (ho : Own k e g cur n cap l) : RdS k W9 (some ⟨g, 0, none⟩) n cap l := by
  have H9 : Hp ⟨#[], W9.tape, W9.drawn, W9.os, W9.output⟩ W9 [(g, cur, e)] := ⟨⟨rfl, rfl, rfl, Nat.zero_le _, fun k hk => absurd hk (Nat.not_lt_zero k)⟩, fun x hx => by
    obtain rfl := List.mem_singleton.1 hx
    exact ⟨Nat.zero_le _, hg⟩, .cons (fun x hx => by cases hx) .nil⟩
  exact H9.rdsO (.head _) ho
theorem Hp.swapOwn {g : Nat} {cur : Array Value} {e : TypeId} {v' : Value} {k : IntKind} {W' : World} {n : Nat} {l : List Int} (H : Hp w0 W ((g, cur, e) :: L)) (hg : W.grownBy W' (some g)) {cap : Nat} (ho : W'.ownsRow w0.heap.size e 1 (.slice (some ⟨g, 0, none⟩) n cap) n (nums k l)) : ∃ cur', Own k e g cur' n cap l ∧ Hp w0 W' ((g, cur', e) :: L) := by
  obtain ⟨hl, ⟨h, _⟩ | ⟨g', cap', cur', h, hb, hh, h1, h2, hs, ht⟩⟩ := id ho
  · cases h
  · simp only [Value.slice.injEq, Option.some.injEq, Addr.mk.injEq, and_true, true_and] at h
    obtain ⟨rfl, rfl⟩ := h
    have hg0 := (H.blk _ (.head _)).1
    refine ⟨cur', Own.of ho hh, H.below.grown hg (Nat.le_trans H.below.size (Nat.le_refl _)) (fun k hk => by cases hk; exact hg0), fun x hx => ?_, ?_⟩
    · rcases List.mem_cons.1 hx with rfl | hx
      · exact ⟨hg0, hh⟩
      · have hne : g ≠ x.1 := by
          have := H.nd
          rw [List.pairwise_cons] at this
          exact this.1 x hx
        have hb := H.blk x (.tail _ hx)
        exact ⟨hb.1, (hg.block x.1 (blk_lt hb.2) (fun e => hne (by simpa using e.symm))).trans hb.2⟩
    · have := H.nd
      rw [List.pairwise_cons] at this ⊢
      exact ⟨this.1, this.2⟩
theorem app_run (H : Hp w0 W L) {g : Nat} {cur : Array Value} {e : TypeId} {L2 : List (Nat × Array Value × TypeId)} (hp : L.Perm ((g, cur, e) :: L2)) {t : TypeId} (ht : P.underlying t = some (.slice e)) {k : IntKind} (bytes : Nat) (hi : (P.info? e).map (fun i => (i.zero, i.size, i.bytes)) = some (some (.int k 0), 1, bytes)) (hb0 : 0 < bytes)
    {n cap : Nat} {l : List Int} (ho : Own k e g cur n cap l) {A : Option Addr} {m c : Nat} {l2 : List Int} (hr : RdS k W A m c l2) (hb : (n + m) * bytes ≤ 140737488355328) (ty : TypeId) :
    ∃ g' cur' cap' W', (append_ #[t, t] ty #[.slice (some ⟨g, 0, none⟩) n cap, .slice A m c]).run P W = .ok (.slice (some ⟨g', 0, none⟩) (n + m) cap') W' ∧ Own k e g' cur' (n + m) cap' (l ++ l2) ∧ Hp w0 W' ((g', cur', e) :: L2) := by
  obtain ⟨i, hi1, hz, hsz, hby⟩ : ∃ i, P.info? e = some i ∧ i.zero = some (.int k 0) ∧ i.size = 1 ∧ i.bytes = bytes := by
    cases hq : P.info? e with
    | none => simp [hq] at hi
    | some i => simp [hq] at hi; exact ⟨i, rfl, hi.1, hi.2.1, hi.2.2⟩
  have H1 := H.perm hp
  have hml : m = l2.length := hr.1
  have hnm : n + m ≤ 140737488355328 := by
    rcases Nat.eq_or_lt_of_le (Nat.succ_le_of_lt hb0) with h1 | h1
    · rw [← h1] at hb; omega
    · have := Nat.mul_le_mul_left (n + m) (Nat.le_of_lt h1); omega
  cases A with
  | none =>
    have h0 : m = 0 := by
      rcases Nat.eq_zero_or_pos m with h0 | h0
      · exact h0
      · obtain ⟨ad, h1, _⟩ := hr.at_ 0 (by omega) (by omega)
        cases h1
    subst h0
    obtain rfl : l2 = [] := List.eq_nil_of_length_eq_zero hml.symm
    have hle := ho.le
    refine ⟨g, cur, cap, W, ?_, by rw [List.append_nil]; exact ho, H1⟩
    simp [append_, run_underlying ht, sizeOf, typeInfo, hi1, lenOf, firstCells, hle, storeCells]
  | some ad =>
    by_cases hroom : n + m ≤ cap
    · obtain ⟨W', hrun, h1, h2⟩ := run_append_fits (P := P) W w0.heap.size t ty e i 1 ht hi1 hsz g n cap _ (H1.own' (.head _) ho) ad m c (nums k l2) (by rw [nums_length]; omega) (rds_cells hr rfl) (one_nums k l2) hroom
      rw [← nums_append] at h1
      obtain ⟨cur', h3, h4⟩ := H1.swapOwn (v' := .bool true) h2 h1
      exact ⟨g, cur', cap, W', hrun, h3, h4⟩
    · obtain ⟨v', W', hrun, h1, h2⟩ := run_append_arg_grows (P := P) W t ty e i (.int k 0) 1 bytes ht hi1 hz hsz hby rfl (by omega) ⟨g, 0, none⟩ n cap (nums k l) (by rw [nums_length]; have := ho.len; omega) (rds_cells (H1.rdsO (.head _) ho) rfl) ad m c (nums k l2) (by rw [nums_length]; omega) (rds_cells hr rfl) (by omega) (by unfold maxLen; omega) hb
      rw [← nums_append] at h1
      have hbl : Below W.heap.size W W' := (Below.refl _ _).grown h2 (Nat.le_refl _) (fun _ h => by cases h)
      obtain ⟨hl, ⟨rfl, h0⟩ | ⟨g', cap', cur', rfl, hg, hh, q1, q2, hs, htk⟩⟩ := id h1
      · omega
      · have H2 := H1.own hbl hg hh
        exact ⟨g', cur', cap', W', hrun, Own.of h1 hh, H2.sub (.cons_cons _ (.cons _ (.refl _)))⟩
end
section
variable {P : Program} {ops : Array Oper} {rest : List Oper} {o : Oper} {a : Act} {K : Act → World → Prop} {Q : Exit → Act → World → Prop} {E : Prop} {w0 W : World} {L : List (Nat × Array Value × TypeId)}
theorem hp_app (H : Hp w0 W L) (hgd : o.guard = none) {s x : Operand} {t : TypeId} (hop : o.op = .call { callee := .builtin .append, args := #[s, x], argTypes := #[t, t] }) {e : TypeId} (ht : P.underlying t = some (.slice e)) {k : IntKind} (bytes : Nat) (hi : (P.info? e).map (fun i => (i.zero, i.size, i.bytes)) = some (some (.int k 0), 1, bytes)) (hb0 : 0 < bytes)
    {g n cap : Nat} (hs : a.eval s = .slice (some ⟨g, 0, none⟩) n cap) {cur : Array Value} {L2 : List (Nat × Array Value × TypeId)} (hp : L.Perm ((g, cur, e) :: L2)) {l : List Int} (ho : Own k e g cur n cap l) {A : Option Addr} {m c : Nat} (hx : a.eval x = .slice A m c) {l2 : List Int} (hr : RdS k W A m c l2) (hb : (n + m) * bytes ≤ 140737488355328) {N : Nat} (hN : n + m = N) {l3 : List Int} (hl3 : l ++ l2 = l3)
    (h : ∀ g' cur' cap' W', Own k e g' cur' N cap' l3 → Hp w0 W' ((g', cur', e) :: L2) → wpList P ops Q rest (a.put o.dst (.slice (some ⟨g', 0, none⟩) N cap')) W') : wpList P ops Q (o :: rest) a W := by
  subst hN hl3
  obtain ⟨g', cur', cap', W', h1, h2, h3⟩ := app_run H hp ht bytes hi hb0 ho hr hb o.type
  exact Go.Lib.wpList_append_run W hgd s x t t hop _ _ hs hx _ W' h1 (h g' cur' cap' W' h2 h3)
theorem hs_app (H : Hp w0 W L) (hgd : o.guard = none) {s x : Operand} {t : TypeId} (hop : o.op = .call { callee := .builtin .append, args := #[s, x], argTypes := #[t, t] }) {e : TypeId} (ht : P.underlying t = some (.slice e)) {k : IntKind} (bytes : Nat) (hi : (P.info? e).map (fun i => (i.zero, i.size, i.bytes)) = some (some (.int k 0), 1, bytes)) (hb0 : 0 < bytes)
    {g n cap : Nat} (hs : a.eval s = .slice (some ⟨g, 0, none⟩) n cap) {cur : Array Value} {L2 : List (Nat × Array Value × TypeId)} (hp : L.Perm ((g, cur, e) :: L2)) {l : List Int} (ho : Own k e g cur n cap l) {A : Option Addr} {m c : Nat} (hx : a.eval x = .slice A m c) {l2 : List Int} (hr : RdS k W A m c l2) (hb : (n + m) * bytes ≤ 140737488355328) {N : Nat} (hN : n + m = N) {l3 : List Int} (hl3 : l ++ l2 = l3)
    (h : ∀ g' cur' cap' W', Own k e g' cur' N cap' l3 → Hp w0 W' ((g', cur', e) :: L2) → K (a.put o.dst (.slice (some ⟨g', 0, none⟩) N cap')) W') : if Region.wanted o (yielded ops a.tmps) = true then Oper.wp P o a W K Q else E := by
  subst hN hl3
  obtain ⟨g', cur', cap', W', h1, h2, h3⟩ := app_run H hp ht bytes hi hb0 ho hr hb o.type
  rw [if_pos (by simp [Region.wanted, hgd])]
  exact Go.Lib.wp_append_run W s x t t hop _ _ hs hx _ W' h1 (h g' cur' cap' W' h2 h3)
theorem hs_lit (H : Hp w0 W L) (hgd : o.guard = none) {t : TypeId} {m : Nat} {ps : Array (Nat × Operand)} (ho : o.op = .buildSlice t m ps) {cs : Array Value} {e : TypeId}
    (hrun : (execOp a.eval o).run P W = .ok (.value (.slice (some ⟨W.heap.size, 0, none⟩) m m)) (W.alloc (.cells cs e (0, 0))))
    (h : ∀ g W', Hp w0 W' ((g, cs, e) :: L) → K (a.put o.dst (.slice (some ⟨g, 0, none⟩) m m)) W') : if Region.wanted o (yielded ops a.tmps) = true then Oper.wp P o a W K Q else E := by
  rw [if_pos (by simp [Region.wanted, hgd])]
  unfold Oper.wp
  rw [hrun]
  exact h _ _ (H.alloc cs e)
end
end Go.Proofs.Ytcagccodmmcnfaa.Hp
end
section
/- Which operation stands first: looked at before a step is tried. Own work; a template. -/
namespace Go.Proofs.Ytcagccodmmcnfaa.Hp
open Go.RowKit Go.Proofs.YtcagccodmmcnfaaW.PrintWords Go.Proofs.YtcagccodmmcnfaaW.PrintLast
section
variable {P : Program} {ops : Array Oper} {rest : List Oper} {a : Act} {Q : Exit → Act → World → Prop} {W : World} {d : Option Tmp} {ty : TypeId} {pos : String} {aft : Array Edge}
/-- The n-th, by a list's own recursion. -/
def nthA {α : Type} : List α → Nat → Option α
  | [], _ => none
  | x :: _, 0 => some x
  | _ :: l, n + 1 => nthA l n
theorem nthA_get {α : Type} : ∀ (l : List α) (n : Nat), nthA l n = l.toArray[n]?
  | [], _ => rfl
  | _ :: _, 0 => by simp [nthA]
  | _ :: l, n + 1 => by
    have := nthA_get l n
    simp [nthA] at this ⊢
    exact this
theorem gate_guard {l : List Oper} {ts : List Value} {df : List (Deferred)} {op : Op} {j : Nat} {b : Bool} (h : wpList P l.toArray Q (⟨d, op, ty, pos, aft, some (j, b)⟩ :: rest) ⟨ts.toArray, df⟩ W) : wpList P l.toArray Q (⟨d, op, ty, pos, aft, some (j, b)⟩ :: rest) ⟨ts.toArray, df⟩ W := h
/-- Where a guarded operation is run, A; where not, B. -/
def GuardGo (b c : Bool) (A B : Prop) : Prop := if b = c then A else B
theorem go_tt {A B : Prop} (h : A) : GuardGo true true A B := h
theorem go_ff {A B : Prop} (h : A) : GuardGo false false A B := h
theorem go_tf {A B : Prop} (h : B) : GuardGo true false A B := h
theorem go_ft {A B : Prop} (h : B) : GuardGo false true A B := h
/-- A guarded operation: its guard's slot is read. -/
theorem hp_guardL {l : List Oper} {ts : List Value} {df : List (Deferred)} {op : Op} {j s : Nat} {b b' : Bool} (h1 : (nthA l j).bind (·.dst) = some s) (h2 : nthA ts s = some (.bool b'))
    (h : GuardGo b' b (wpList P l.toArray Q (⟨d, op, ty, pos, aft, none⟩ :: rest) ⟨ts.toArray, df⟩ W) (wpList P l.toArray Q rest ((⟨ts.toArray, df⟩ : Act).put d undef) W)) : wpList P l.toArray Q (⟨d, op, ty, pos, aft, some (j, b)⟩ :: rest) ⟨ts.toArray, df⟩ W := by
  rw [nthA_get] at h1 h2
  unfold GuardGo at h
  split at h
  · rename_i e
    subst e
    refine hp_guard ?_ h
    unfold Region.wanted yielded
    simp only [h1, Option.bind_some, h2, beq_self_eq_true]
  · rename_i e
    refine wpList_skip ?_ h
    unfold Region.wanted yielded
    simp only [h1, Option.bind_some, h2]
    simpa using e
end
end Go.Proofs.Ytcagccodmmcnfaa.Hp
end
section
/- The steps of a walk for a goal that is not unfolded. Own work; a template, printed by gen_gate.py. -/
namespace Go.Proofs.Ytcagccodmmcnfaa.Hp
open Go.RowKit Go.Proofs.YtcagccodmmcnfaaW.PrintWords Go.Proofs.YtcagccodmmcnfaaW.PrintLast
set_option linter.unusedVariables false
/-- A walk's goal, as it stands. -/
structure WpS (P : Program) (ops : Array Oper) (Q : Exit → Act → World → Prop) (l : List Oper) (a : Act) (W : World) : Prop where
  out : wpList P ops Q l a W
section
variable {P : Program} {ops : Array Oper} {rest : List Oper} {o : Oper} {a : Act} {Q : Exit → Act → World → Prop} {w0 W : World} {L : List (Nat × Array Value × TypeId)}
theorem hp_boxG (H : Hp w0 W L) (hgd : o.guard = none) {t : TypeId} {x : Operand} (ho : o.op = .box t x) {cs : Array Value} (hx : a.eval x = .agg cs)
    (h : ∀ g W', Hp w0 W' ((g, cs, t) :: L) → wpList P ops Q rest (a.put o.dst (.pointer (some ⟨g, 0, none⟩))) W') : WpS P ops Q (o :: rest) a W := ⟨hp_box H hgd ho hx h⟩
theorem hp_allocG (H : Hp w0 W L) (hgd : o.guard = none) {t : TypeId} (ho : o.op = .alloc t) {z : Value} (hz : ∀ w, (zeroValue t).run P w = .ok z w)
    (h : ∀ g W', Hp w0 W' ((g, z.cells, t) :: L) → wpList P ops Q rest (a.put o.dst (.pointer (some ⟨g, 0, none⟩))) W') : WpS P ops Q (o :: rest) a W := ⟨hp_alloc H hgd ho hz h⟩
theorem hp_loadG (H : Hp w0 W L) (hgd : o.guard = none) {ty : TypeId} {x : Operand} (ho : o.op = .load ty x) {g off : Nat} (hx : a.eval x = .pointer (some ⟨g, off, none⟩)) {cs : Array Value} {t : TypeId} (hm : (g, cs, t) ∈ L)
    (hu : (match P.underlying ty with | some (.struct _) | some (.array _ _) | none => false | _ => true) = true) {v : Value} (hc : cs[off]? = some v)
    (h : wpList P ops Q rest (a.put o.dst v) W) : WpS P ops Q (o :: rest) a W := ⟨hp_load H hgd ho hx hm hu hc h⟩
theorem hp_loadsG (H : Hp w0 W L) (hgd : o.guard = none) {ty : TypeId} {x : Operand} (ho : o.op = .load ty x) {g off : Nat} (hx : a.eval x = .pointer (some ⟨g, off, none⟩)) {cs : Array Value} {t : TypeId} (hm : (g, cs, t) ∈ L)
    (hu : (match P.underlying ty with | some (.struct _) | some (.array _ _) => true | _ => false) = true) {n : Nat} (hi : (P.info? ty).map (·.size) = some n) (hfit : Nat.ble (off + n) cs.size = true) {cs' : Array Value} (hc : cs.extract off (off + n) = cs')
    (h : wpList P ops Q rest (a.put o.dst (.agg cs')) W) : WpS P ops Q (o :: rest) a W := ⟨hp_loads H hgd ho hx hm hu hi hfit hc h⟩
theorem hp_wholeG (H : Hp w0 W L) (hgd : o.guard = none) {ty : TypeId} {x : Operand} (ho : o.op = .load ty x) {g : Nat} (hx : a.eval x = .pointer (some ⟨g, 0, none⟩)) {cs : Array Value} {t : TypeId} (hm : (g, cs, t) ∈ L)
    (hu : (match P.underlying ty with | some (.struct _) | some (.array _ _) => true | _ => false) = true) (hi : (P.info? ty).map (·.size) = some cs.size)
    (h : wpList P ops Q rest (a.put o.dst (.agg cs)) W) : WpS P ops Q (o :: rest) a W := ⟨hp_whole H hgd ho hx hm hu hi h⟩
theorem hp_store0G {L2 : List (Nat × Array Value × TypeId)} {g off : Nat} {cs : Array Value} {t : TypeId} (H : Hp w0 W ((g, cs, t) :: L2)) (hgd : o.guard = none) {ty : TypeId} {x y : Operand} (ho : o.op = .store ty x y) (hd : o.dst = none) (hx : a.eval x = .pointer (some ⟨g, off, none⟩))
    {v : Value} (hy : a.eval y = v) (hi : (P.info? ty).map (·.size) = some v.cells.size) (hfit : Nat.ble (off + v.cells.size) cs.size = true) (h1 : v.cells.toList.all (·.oneCell') = true) {cs' : Array Value} (hc : putSeg cs off v.cells.toList = cs')
    (h : ∀ W', Hp w0 W' ((g, cs', t) :: L2) → wpList P ops Q rest a W') : WpS P ops Q (o :: rest) a W := ⟨hp_store0 H hgd ho hd hx hy hi hfit h1 hc h⟩
theorem hp_store1G {L2 : List (Nat × Array Value × TypeId)} {x1 : Nat × Array Value × TypeId} {g off : Nat} {cs : Array Value} {t : TypeId} (H : Hp w0 W (x1 :: (g, cs, t) :: L2)) (hgd : o.guard = none) {ty : TypeId} {x y : Operand} (ho : o.op = .store ty x y) (hd : o.dst = none) (hx : a.eval x = .pointer (some ⟨g, off, none⟩))
    {v : Value} (hy : a.eval y = v) (hi : (P.info? ty).map (·.size) = some v.cells.size) (hfit : Nat.ble (off + v.cells.size) cs.size = true) (h1 : v.cells.toList.all (·.oneCell') = true) {cs' : Array Value} (hc : putSeg cs off v.cells.toList = cs')
    (h : ∀ W', Hp w0 W' (x1 :: (g, cs', t) :: L2) → wpList P ops Q rest a W') : WpS P ops Q (o :: rest) a W := ⟨hp_store1 H hgd ho hd hx hy hi hfit h1 hc h⟩
theorem hp_store2G {L2 : List (Nat × Array Value × TypeId)} {x1 x2 : Nat × Array Value × TypeId} {g off : Nat} {cs : Array Value} {t : TypeId} (H : Hp w0 W (x1 :: x2 :: (g, cs, t) :: L2)) (hgd : o.guard = none) {ty : TypeId} {x y : Operand} (ho : o.op = .store ty x y) (hd : o.dst = none) (hx : a.eval x = .pointer (some ⟨g, off, none⟩))
    {v : Value} (hy : a.eval y = v) (hi : (P.info? ty).map (·.size) = some v.cells.size) (hfit : Nat.ble (off + v.cells.size) cs.size = true) (h1 : v.cells.toList.all (·.oneCell') = true) {cs' : Array Value} (hc : putSeg cs off v.cells.toList = cs')
    (h : ∀ W', Hp w0 W' (x1 :: x2 :: (g, cs', t) :: L2) → wpList P ops Q rest a W') : WpS P ops Q (o :: rest) a W := ⟨hp_store2 H hgd ho hd hx hy hi hfit h1 hc h⟩
theorem hp_store3G {L2 : List (Nat × Array Value × TypeId)} {x1 x2 x3 : Nat × Array Value × TypeId} {g off : Nat} {cs : Array Value} {t : TypeId} (H : Hp w0 W (x1 :: x2 :: x3 :: (g, cs, t) :: L2)) (hgd : o.guard = none) {ty : TypeId} {x y : Operand} (ho : o.op = .store ty x y) (hd : o.dst = none) (hx : a.eval x = .pointer (some ⟨g, off, none⟩))
    {v : Value} (hy : a.eval y = v) (hi : (P.info? ty).map (·.size) = some v.cells.size) (hfit : Nat.ble (off + v.cells.size) cs.size = true) (h1 : v.cells.toList.all (·.oneCell') = true) {cs' : Array Value} (hc : putSeg cs off v.cells.toList = cs')
    (h : ∀ W', Hp w0 W' (x1 :: x2 :: x3 :: (g, cs', t) :: L2) → wpList P ops Q rest a W') : WpS P ops Q (o :: rest) a W := ⟨hp_store3 H hgd ho hd hx hy hi hfit h1 hc h⟩
theorem hp_store4G {L2 : List (Nat × Array Value × TypeId)} {x1 x2 x3 x4 : Nat × Array Value × TypeId} {g off : Nat} {cs : Array Value} {t : TypeId} (H : Hp w0 W (x1 :: x2 :: x3 :: x4 :: (g, cs, t) :: L2)) (hgd : o.guard = none) {ty : TypeId} {x y : Operand} (ho : o.op = .store ty x y) (hd : o.dst = none) (hx : a.eval x = .pointer (some ⟨g, off, none⟩))
    {v : Value} (hy : a.eval y = v) (hi : (P.info? ty).map (·.size) = some v.cells.size) (hfit : Nat.ble (off + v.cells.size) cs.size = true) (h1 : v.cells.toList.all (·.oneCell') = true) {cs' : Array Value} (hc : putSeg cs off v.cells.toList = cs')
    (h : ∀ W', Hp w0 W' (x1 :: x2 :: x3 :: x4 :: (g, cs', t) :: L2) → wpList P ops Q rest a W') : WpS P ops Q (o :: rest) a W := ⟨hp_store4 H hgd ho hd hx hy hi hfit h1 hc h⟩
theorem hp_goesG (H : Hp w0 W L) (hgd : o.guard = none) {f : FuncId} {as : Array Operand} {ts : Array TypeId} (ho : o.op = .call { callee := .value (.func f), args := as, argTypes := ts }) {fn : Func} (hf : P.funcs[f]? = some fn) (hname : (fn.name == "runtime.NumGoroutine") = false) (hb : fn.body.isSome = true)
    {args : Array Value} {post : Ending → World → Prop} (hc : Calls P f args W post) (hargs : as.map a.eval = args)
    (h : ∀ e w', post e w' → ∃ v, e = .returned v ∧ Below W.heap.size W w' ∧ (Hp w0 w' L → wpList P ops Q rest (a.put o.dst v) w')) : WpS P ops Q (o :: rest) a W := ⟨hp_goes H hgd ho hf hname hb hc hargs h⟩
theorem hp_litG (H : Hp w0 W L) (hgd : o.guard = none) {t : TypeId} {m : Nat} {ps : Array (Nat × Operand)} (ho : o.op = .buildSlice t m ps) {cs : Array Value} {e : TypeId}
    (hrun : (execOp a.eval o).run P W = .ok (.value (.slice (some ⟨W.heap.size, 0, none⟩) m m)) (W.alloc (.cells cs e (0, 0))))
    (h : ∀ g W', Hp w0 W' ((g, cs, e) :: L) → wpList P ops Q rest (a.put o.dst (.slice (some ⟨g, 0, none⟩) m m)) W') : WpS P ops Q (o :: rest) a W := ⟨hp_lit H hgd ho hrun h⟩
theorem hp_goesRG (H : Hp w0 W L) (hgd : o.guard = none) {f : FuncId} {as : Array Operand} {ts : Array TypeId} (ho : o.op = .call { callee := .value (.func f), args := as, argTypes := ts }) {fn : Func} (hf : P.funcs[f]? = some fn) (hname : (fn.name == "runtime.NumGoroutine") = false) (hb : fn.body.isSome = true)
    {args : Array Value} {e : TypeId} {n : Nat} {k : IntKind} {l : List Int} (hc : Calls P f args W fun e' w' => ∃ v, e' = .returned v ∧ w'.ownsRow W.heap.size e 1 v n (nums k l) ∧ Below W.heap.size W w') (hargs : as.map a.eval = args)
    (h0 : ∀ W', l = [] → n = 0 → Hp w0 W' L → wpList P ops Q rest (a.put o.dst (.slice none 0 0)) W')
    (h1 : ∀ g cur cap W', cur.toList.take n = nums k l → n = l.length → n ≤ cap → cap ≤ 9223372036854775807 → Hp w0 W' ((g, cur, e) :: L) → wpList P ops Q rest (a.put o.dst (.slice (some ⟨g, 0, none⟩) n cap)) W') : WpS P ops Q (o :: rest) a W := ⟨hp_goesR H hgd ho hf hname hb hc hargs h0 h1⟩
theorem hp_appG (H : Hp w0 W L) (hgd : o.guard = none) {s x : Operand} {t : TypeId} (hop : o.op = .call { callee := .builtin .append, args := #[s, x], argTypes := #[t, t] }) {e : TypeId} (ht : P.underlying t = some (.slice e)) {k : IntKind} (bytes : Nat) (hi : (P.info? e).map (fun i => (i.zero, i.size, i.bytes)) = some (some (.int k 0), 1, bytes)) (hb0 : 0 < bytes)
    {g n cap : Nat} (hs : a.eval s = .slice (some ⟨g, 0, none⟩) n cap) {cur : Array Value} {L2 : List (Nat × Array Value × TypeId)} (hp : L.Perm ((g, cur, e) :: L2)) {l : List Int} (ho : Own k e g cur n cap l) {A : Option Addr} {m c : Nat} (hx : a.eval x = .slice A m c) {l2 : List Int} (hr : RdS k W A m c l2) (hb : (n + m) * bytes ≤ 140737488355328) {N : Nat} (hN : n + m = N) {l3 : List Int} (hl3 : l ++ l2 = l3)
    (h : ∀ g' cur' cap' W', Own k e g' cur' N cap' l3 → Hp w0 W' ((g', cur', e) :: L2) → wpList P ops Q rest (a.put o.dst (.slice (some ⟨g', 0, none⟩) N cap')) W') : WpS P ops Q (o :: rest) a W := ⟨hp_app H hgd hop ht bytes hi hb0 hs hp ho hx hr hb hN hl3 h⟩
variable {d : Option Tmp} {ty : TypeId} {pos : String} {aft : Array Edge}
theorem gate_boxG {t : TypeId} {x : Operand} (h : WpS P ops Q (⟨d, .box t x, ty, pos, aft, none⟩ :: rest) a W) : wpList P ops Q (⟨d, .box t x, ty, pos, aft, none⟩ :: rest) a W := h.out
theorem gate_allocG {t : TypeId} (h : WpS P ops Q (⟨d, .alloc t, ty, pos, aft, none⟩ :: rest) a W) : wpList P ops Q (⟨d, .alloc t, ty, pos, aft, none⟩ :: rest) a W := h.out
theorem gate_loadG {t : TypeId} {x : Operand} (h : WpS P ops Q (⟨d, .load t x, ty, pos, aft, none⟩ :: rest) a W) : wpList P ops Q (⟨d, .load t x, ty, pos, aft, none⟩ :: rest) a W := h.out
theorem gate_storeG {t : TypeId} {x y : Operand} (h : WpS P ops Q (⟨d, .store t x y, ty, pos, aft, none⟩ :: rest) a W) : wpList P ops Q (⟨d, .store t x y, ty, pos, aft, none⟩ :: rest) a W := h.out
theorem gate_litG {t : TypeId} {m : Nat} {ps : Array (Nat × Operand)} (h : WpS P ops Q (⟨d, .buildSlice t m ps, ty, pos, aft, none⟩ :: rest) a W) : wpList P ops Q (⟨d, .buildSlice t m ps, ty, pos, aft, none⟩ :: rest) a W := h.out
theorem gate_fnG {f : FuncId} {as : Array Operand} {ts : Array TypeId} (h : WpS P ops Q (⟨d, .call { callee := .value (.func f), args := as, argTypes := ts }, ty, pos, aft, none⟩ :: rest) a W) : wpList P ops Q (⟨d, .call { callee := .value (.func f), args := as, argTypes := ts }, ty, pos, aft, none⟩ :: rest) a W := h.out
theorem gate_appG {s x : Operand} {ts : Array TypeId} (h : WpS P ops Q (⟨d, .call { callee := .builtin .append, args := #[s, x], argTypes := ts }, ty, pos, aft, none⟩ :: rest) a W) : wpList P ops Q (⟨d, .call { callee := .builtin .append, args := #[s, x], argTypes := ts }, ty, pos, aft, none⟩ :: rest) a W := h.out
theorem gate_guardG {l : List Oper} {ts : List Value} {df : List (Deferred)} {op : Op} {j : Nat} {b : Bool} (h : WpS P l.toArray Q (⟨d, op, ty, pos, aft, some (j, b)⟩ :: rest) ⟨ts.toArray, df⟩ W) : wpList P l.toArray Q (⟨d, op, ty, pos, aft, some (j, b)⟩ :: rest) ⟨ts.toArray, df⟩ W := h.out
theorem hp_guardLG {l : List Oper} {ts : List Value} {df : List (Deferred)} {op : Op} {j s : Nat} {b b' : Bool} (h1 : (nthA l j).bind (·.dst) = some s) (h2 : nthA ts s = some (.bool b'))
    (h : GuardGo b' b (wpList P l.toArray Q (⟨d, op, ty, pos, aft, none⟩ :: rest) ⟨ts.toArray, df⟩ W) (wpList P l.toArray Q rest ((⟨ts.toArray, df⟩ : Act).put d undef) W)) : WpS P l.toArray Q (⟨d, op, ty, pos, aft, some (j, b)⟩ :: rest) ⟨ts.toArray, df⟩ W := ⟨hp_guardL h1 h2 h⟩
end
end Go.Proofs.Ytcagccodmmcnfaa.Hp
end
section
/- Loads from a block that is known. Own work; a template. -/
namespace Go.Proofs.Ytcagccodmmcnfaa.Hp
open Go.RowKit Go.Proofs.YtcagccodmmcnfaaW.PrintWords Go.Proofs.YtcagccodmmcnfaaW.PrintLast
set_option linter.unusedVariables false
section
variable {P : Program} {ops : Array Oper} {rest : List Oper} {o : Oper} {a : Act} {Q : Exit → Act → World → Prop} {W : World}
theorem hp_loadXG (hgd : o.guard = none) {ty : TypeId} {x : Operand} (ho : o.op = .load ty x) {g off : Nat} (hx : a.eval x = .pointer (some ⟨g, off, none⟩)) {cs : Array Value} {t : TypeId} (hg : W.heap[g]? = some (.cells cs t (0, 0)))
    (hu : (match P.underlying ty with | some (.struct _) | some (.array _ _) | none => false | _ => true) = true) {v : Value} (hc : cs[off]? = some v)
    (h : wpList P ops Q rest (a.put o.dst v) W) : WpS P ops Q (o :: rest) a W := by
  refine ⟨Kd.event_run hgd ?_ h⟩
  unfold execOp
  simp only [ho, hx, Instr.loadAt, Instr.sureAddr, Sem.run_bind, Sem.run_pure, Result.andThen_ok, run_one W g off ty t cs v hg hu hc]
theorem hp_wholeXG (hgd : o.guard = none) {ty : TypeId} {x : Operand} (ho : o.op = .load ty x) {g : Nat} (hx : a.eval x = .pointer (some ⟨g, 0, none⟩)) {cs : Array Value} {t : TypeId} (hg : W.heap[g]? = some (.cells cs t (0, 0)))
    (hu : (match P.underlying ty with | some (.struct _) | some (.array _ _) => true | _ => false) = true) (hi : (P.info? ty).map (·.size) = some cs.size)
    (h : wpList P ops Q rest (a.put o.dst (.agg cs)) W) : WpS P ops Q (o :: rest) a W := by
  refine ⟨Kd.event_run hgd ?_ h⟩
  unfold execOp
  simp only [ho, hx, Instr.loadAt, Instr.sureAddr, Sem.run_bind, Sem.run_pure, Result.andThen_ok, run_cellvar W g t ty cs hg hu hi]
/-- A number in a slice that is read. -/
theorem hp_atXG (hgd : o.guard = none) {ty : TypeId} {x : Operand} (ho : o.op = .load ty x) {ad : Addr} (hx : a.eval x = .pointer (some ad)) {v : Value} (hg : W.cell? ad = some v)
    (hu : (match P.underlying ty with | some (.struct _) | some (.array _ _) | none => false | _ => true) = true)
    (h : wpList P ops Q rest (a.put o.dst v) W) : WpS P ops Q (o :: rest) a W := ⟨by
  refine Kd.event_run hgd ?_ h
  unfold execOp
  cases hd : P.underlying ty with
  | none => simp [hd] at hu
  | some d =>
    have hagg : (isAgg ty).run P W = .ok false W := by
      unfold isAgg
      rw [Sem.run_bind, run_underlying hd W]
      rw [hd] at hu
      cases d <;> simp_all
    simp [ho, hx, Instr.loadAt, Instr.sureAddr, loadVar, Sem.run_bind, hagg, hg]⟩
end
theorem hk_op2 {P : Program} {Q : Exit → Act → World → Prop} {a : Act} {W : World} {S : World → Prop} {l : List Oper} {md : Region.Mode} {fuel : Nat} {listed : Array Bool} {i j : Nat} {o1 o2 : Oper} (ho1 : nthO l i = some o1) (ho2 : nthO l j = some o2) (hr : Region.ready md l.toArray listed = [i, j])
    (h1 : ∀ K' : Act → World → Prop, Shut (∀ a w, S w → (S w → wpAnyH P md l.toArray Q S fuel (listed.setIfInBounds i true) a w) → K' a w) → if Region.wanted o1 (yielded l.toArray a.tmps) = true then Oper.wp P o1 a W K' Q else K' (a.put o1.dst undef) W)
    (h2 : ∀ K' : Act → World → Prop, Shut (∀ a w, S w → (S w → wpAnyH P md l.toArray Q S fuel (listed.setIfInBounds j true) a w) → K' a w) → if Region.wanted o2 (yielded l.toArray a.tmps) = true then Oper.wp P o2 a W K' Q else K' (a.put o2.dst undef) W) : wpAnyH P md l.toArray Q S (fuel + 1) listed a W :=
  wpAnyH_ready hr (by simp) (AllReadyH.cons ((nthO_get l i).symm.trans ho1) h1 (AllReadyH.cons ((nthO_get l j).symm.trans ho2) h2 AllReadyH.nil))
theorem Own.last {k : IntKind} {e : TypeId} {g n cap : Nat} {cur : Array Value} {l : List Int} {v : Int} (h : Own k e g cur (n + 1) cap (l ++ [v])) (hn : n = l.length) : cur[n]? = some (.int k v) := by
  have := congrArg (fun q => q[n]?) h.take
  simp only [nums_append] at this
  rw [List.getElem?_take, if_pos (by omega), List.getElem?_append_right (by rw [nums_length]; omega), nums_length, hn, Nat.sub_self] at this
  rw [← Array.getElem?_toList, hn, this]
  rfl
end Go.Proofs.Ytcagccodmmcnfaa.Hp
end
