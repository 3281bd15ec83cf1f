/- A row's arguments, opened: what is read of a type is told by a kind of the print's words, and fits. Own work; a template: 'Ytdnfofhfllnhiaa' is a seat's Name. -/
import Derived.Test.YtdnfofhfllnhiaaWWords
import Derived.ChangeArms
import Derived.OpenShut
import Derived.SizedLaws
namespace Go.Proofs.Ytdnfofhfllnhiaa.Opn
open Go.RowKit Go.Proofs.YtdnfofhfllnhiaaW.PrintWords

def Opn (P : Program) (t : TypeId) {α : Type} (k : Kd α) (F : α → Prop) : Prop :=
  ∀ (H : Type) (enc : TypeId × Value → H) (W : World) (base : Nat) (spare : Nat → Bool) (held : Bool) (fuel : Nat) (cs : List Value) (x : DataW H × List MemPlace),
    DataW.trod enc P W base spare held fuel t cs = some x → (∀ n ∈ x.1.weights P t, n ≤ 140737488351232) → ∃ a, k.K W a cs ∧ F a

theorem opn_int {P : Program} {t : TypeId} {ik : IntKind} (hu : P.underlying t = some (.int ik)) : Opn P t (Kd.int ik) (fun a => (Lit.int ik a).wf = true) := by
  intro H enc W base spare held fuel cs x h _
  obtain ⟨n, rfl, rfl, hw⟩ := DataW.trod_int hu h
  exact ⟨n, rfl, hw⟩
theorem opn_bool {P : Program} {t : TypeId} (hu : P.underlying t = some .bool) : Opn P t Kd.bool (fun _ => True) := by
  intro H enc W base spare held fuel cs x h _
  obtain ⟨b, rfl, rfl⟩ := DataW.trod_bool hu h
  exact ⟨b, rfl, trivial⟩
theorem opn_string {P : Program} {t : TypeId} (hu : P.underlying t = some .string) : Opn P t Kd.string (fun s => s.size ≤ 140737488351232) := by
  intro H enc W base spare held fuel cs x h hw
  obtain ⟨s, rfl, rfl, _⟩ := DataW.trod_string hu h
  refine ⟨s, rfl, ?_⟩
  have := hw s.data.toList.length (by simp [DataW.weights])
  rw [Array.length_toList] at this
  exact this

theorem add_add (a : Addr) (i j : Nat) : (a.add i).add j = a.add (i + j) := by
  unfold Addr.add
  by_cases h1 : i = 0 <;> by_cases h2 : j = 0 <;> simp [h1, h2, Nat.add_assoc]

theorem cells_at {w : World} {base : Nat} {a : Addr} {n : Nat} {cs : List Value} (h : w.cells? base a n = some cs) : cs.length = n ∧ ∀ i u, cs[i]? = some u → w.cell? (a.add i) = some u := by
  unfold World.cells? at h
  split at h
  · refine ⟨by simpa using mapM_some_length h, fun i u hu => ?_⟩
    have hl : cs.length = n := by simpa using mapM_some_length h
    have hi : i < n := by
      rcases Nat.lt_or_ge i n with h1 | h1
      · exact h1
      · rw [List.getElem?_eq_none (by omega)] at hu; cases hu
    have := mapM_some_get h i i (by simp [hi])
    rw [this, hu]
  · cases h

theorem list_of {α : Type} {Q : Nat → α → Prop} : ∀ (n : Nat), (∀ i, i < n → ∃ a, Q i a) → ∃ xs : List α, xs.length = n ∧ ∀ i a, xs[i]? = some a → Q i a
  | 0, _ => ⟨[], rfl, fun i a h => by simp at h⟩
  | n + 1, h => by
    obtain ⟨xs, hl, hx⟩ := list_of n (fun i hi => h i (by omega))
    obtain ⟨a, ha⟩ := h n (by omega)
    refine ⟨xs ++ [a], by simp [hl], fun i b hb => ?_⟩
    rcases Nat.lt_or_ge i n with h1 | h1
    · rw [List.getElem?_append_left (by omega)] at hb
      exact hx i b hb
    · rw [List.getElem?_append_right (by omega), hl] at hb
      rcases Nat.lt_or_ge n i with h2 | h2
      · rw [List.getElem?_eq_none (by simp; omega)] at hb; cases hb
      · have h3 : i = n := by omega
        subst h3
        simp at hb
        subst hb
        exact ha

theorem weights_all {H : Type} {P : Program} {e : TypeId} : ∀ {ds : List (DataW H)} {d : DataW H}, d ∈ ds → ∀ n ∈ d.weights P e, n ∈ DataW.weightsAll P e ds
  | d0 :: ds, d, hd, n, hn => by
    simp only [DataW.weightsAll, List.mem_append]
    rcases List.mem_cons.1 hd with rfl | h
    · exact Or.inl hn
    · exact Or.inr (weights_all h n hn)
  | [], d, hd, _, _ => by cases hd

theorem opn_slice {P : Program} {t e : TypeId} {α : Type} {k : Kd α} {F : α → Prop} {B : Nat} (hu : P.underlying t = some (.slice e)) (hc : P.cellsOf e = k.sz) (hB : P.bytesOf e = B) (h : Opn P e k F) :
    Opn P t (Kd.slice e k) (fun xs => xs.length * B ≤ 140737488351232 ∧ ∀ x ∈ xs, F x) := by
  intro H enc W base spare held fuel cs x hx hw
  rcases DataW.trod_slice hu hx with ⟨rfl, rfl⟩ | ⟨a, len, cap, elems, rest, n, rfl, rfl, rfl, hb, hl, hcap, hlen, hat, _, _⟩
  · exact ⟨[], ⟨none, 0, rfl, Nat.le_refl _, Kd.C_nil _ _⟩, by simp, by simp⟩
  · simp only [DataW.weights, hu, List.mem_cons, List.mem_append] at hw
    have key : ∀ i, i < len → ∃ v : α, F v ∧ ∃ c, c.length = k.sz ∧ k.K W v c ∧ ∀ j u, c[j]? = some u → W.cell? (a.add (i * k.sz + j)) = some u := by
      intro i hi
      have h1 := hat i hi
      rw [List.getElem?_eq_getElem (by omega)] at h1
      obtain ⟨c, hc1, hc2⟩ := Option.bind_eq_some_iff.1 h1
      have hm : (elems[i]'(by omega)).1 ∈ elems.map (·.1) := List.mem_map_of_mem (List.getElem_mem _)
      obtain ⟨v, hv, hF⟩ := h H enc W base spare held n c _ hc2 (fun m hm' => hw m (Or.inr (Or.inl (weights_all hm m hm'))))
      obtain ⟨hcl, hcc⟩ := cells_at hc1
      refine ⟨v, hF, c, by rw [hcl, hc], hv, fun j u hu' => ?_⟩
      have := hcc j u hu'
      rw [add_add, hc] at this
      exact this
    obtain ⟨xs, hxl, hxs⟩ := list_of len key
    have h0 := hw _ (Or.inl rfl)
    simp only [List.length_map] at h0
    rw [hlen, hB] at h0
    have hle : len * B ≤ 140737488351232 := Nat.le_trans (Nat.mul_le_mul_right _ (Nat.le_add_right _ _)) h0
    refine ⟨xs, ⟨some a, cap, by rw [hxl], by omega, ?_⟩, by rw [hxl]; exact hle, fun v hv => ?_⟩
    · refine ⟨rfl, by rw [hxl]; unfold maxLen at hcap; omega, fun _ => ⟨a, rfl, fun j p hj => ?_⟩⟩
      obtain ⟨_, c, h1, h2, h3⟩ := hxs j p hj
      exact ⟨c, h1, h2, h3⟩
    · obtain ⟨i, hi, rfl⟩ := List.getElem_of_mem hv
      exact (hxs i _ (List.getElem?_eq_getElem hi)).1

/-- A struct, field by field: 'fs' the fields, from field i on, 'o' the cells ahead of it. -/
def Opns (P : Program) (fs : List Field) (o : Nat) {α : Type} (k : Kd α) (F : α → Prop) : Prop :=
  ∀ (H : Type) (enc : TypeId × Value → H) (W : World) (base : Nat) (spare : Nat → Bool) (held : Bool) (fuel : Nat) (cs : List Value) (xs : List (DataW H × List MemPlace)),
    cs.length = o + k.sz → xs.length = fs.length →
    (∀ (i : Nat) (f : Field), fs[i]? = some f → DataW.trod enc P W base spare held fuel f.type ((cs.drop f.offset).take (P.cellsOf f.type)) = xs[i]?) →
    (∀ n ∈ DataW.weightsEach P (fs.map (·.type)) (xs.map (·.1)), n ≤ 140737488351232) → ∃ a, k.K W a (cs.drop o) ∧ F a

theorem opns_one {P : Program} {f : Field} {o : Nat} {α : Type} {k : Kd α} {F : α → Prop} (ho : f.offset = o) (hc : P.cellsOf f.type = k.sz) (h : Opn P f.type k F) : Opns P [f] o k F := by
  intro H enc W base spare held fuel cs xs hl hx hf hw
  match xs, hx with
  | [x], _ =>
    have h1 := hf 0 f rfl
    simp only [List.getElem?_cons_zero] at h1
    have e : (cs.drop f.offset).take (P.cellsOf f.type) = cs.drop o := by
      rw [ho, hc, List.take_of_length_le (by rw [List.length_drop]; omega)]
    rw [e] at h1
    exact h H enc W base spare held fuel _ _ h1 (fun n hn => hw n (by simp [DataW.weightsEach, hn]))

theorem opns_cons {P : Program} {f : Field} {fs : List Field} {o : Nat} {α β : Type} {k : Kd α} {k' : Kd β} {F : α → Prop} {F' : β → Prop} (ho : f.offset = o) (hc : P.cellsOf f.type = k.sz) (h : Opn P f.type k F) (hs : Opns P fs (o + k.sz) k' F') :
    Opns P (f :: fs) o (Kd.pair k k') (fun x => F x.1 ∧ F' x.2) := by
  intro H enc W base spare held fuel cs xs hl hx hf hw
  match xs, hx with
  | x :: xs, hx =>
    have hl' : cs.length = o + (k.sz + k'.sz) := hl
    have h1 := hf 0 f rfl
    simp only [List.getElem?_cons_zero] at h1
    rw [ho, hc] at h1
    obtain ⟨a, ha, hFa⟩ := h H enc W base spare held fuel _ _ h1 (fun n hn => hw n (by simp [DataW.weightsEach, hn]))
    obtain ⟨b, hb, hFb⟩ := hs H enc W base spare held fuel cs xs (by omega) (by simpa using hx) (fun i f' hf' => by have := hf (i + 1) f' (by simpa using hf'); simpa using this) (fun n hn => hw n (by simp [DataW.weightsEach]; exact Or.inr hn))
    refine ⟨(a, b), ⟨_, _, ?_, ha, hb⟩, hFa, hFb⟩
    rw [← List.drop_drop, List.take_append_drop]

theorem opn_struct {P : Program} {t : TypeId} {fs : Array Field} {α β : Type} {k : Kd α} {F : α → Prop} {g : β → α} (hu : P.underlying t = some (.struct fs)) (hc : P.cellsOf t = k.sz) (f : α → β) (hg : ∀ a, g (f a) = a) (h : Opns P fs.toList 0 k F) :
    Opn P t (Kd.iso k g) (fun x => F (g x)) := by
  intro H enc W base spare held fuel cs x hx hw
  obtain ⟨xs, n, rfl, rfl, hl, hxl, hf⟩ := DataW.trod_struct hu hx
  simp only [DataW.weights, hu] at hw
  obtain ⟨a, ha, hF⟩ := h H enc W base spare held n cs xs (by omega) (by simpa using hxl) (fun i f' hf' => hf i f' (by simpa using hf')) hw
  refine ⟨f a, ?_, by show F (g (f a)); rw [hg]; exact hF⟩
  show k.K W (g (f a)) cs
  rw [hg]
  simpa using ha

/-- An array of n elements: as a struct of n fields of one type. -/
def Opna (P : Program) (e : TypeId) (n o : Nat) {α : Type} (k : Kd α) (F : α → Prop) : Prop :=
  ∀ (H : Type) (enc : TypeId × Value → H) (W : World) (base : Nat) (spare : Nat → Bool) (held : Bool) (fuel : Nat) (cs : List Value) (xs : List (DataW H × List MemPlace)),
    cs.length = o + k.sz → xs.length = n →
    (∀ (i : Nat), i < n → DataW.trod enc P W base spare held fuel e ((cs.drop (o + i * P.cellsOf e)).take (P.cellsOf e)) = xs[i]?) →
    (∀ m ∈ DataW.weightsAll P e (xs.map (·.1)), m ≤ 140737488351232) → ∃ a, k.K W a (cs.drop o) ∧ F a

/-- The shape of a parameter's value and its reading. -/
theorem opn_trod {P : Program} {t : TypeId} {α : Type} {k : Kd α} {F : α → Prop} (h : Opn P t k F) {H : Type} {enc : TypeId × Value → H} {W : World} {base : Nat} {spare : Nat → Bool} {held : Bool} {v : Value} {d : DataW H} {ps : List MemPlace} {ts : List TypeId} {ds : List (DataW H)} {j : Nat}
    (hsz : (DataW.weightsEach P ts ds).all (· ≤ reachBytes) = true) (ht : ts[j]? = some t) (hd : ds[j]? = some d) (hr : DataW.Trod enc P W base spare held t v d ps) : ∃ a, k.K W a v.cells.toList ∧ F a := by
  obtain ⟨fuel, hf⟩ := hr
  refine h H enc W base spare held fuel _ _ hf (fun n hn => ?_)
  exact of_decide_eq_true (List.all_eq_true.1 hsz n (DataW.weights_mem_each ht hd n hn))
end Go.Proofs.Ytdnfofhfllnhiaa.Opn
