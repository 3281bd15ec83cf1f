/- Several texts in one, put together by automerge.py. Own work and the print's. -/
import Derived.Test.YtcagccodmmcnfaaProg
import Derived.Below
import Derived.Deep.Draws
import Derived.Deep.AppendLies
import Derived.Maps.AppendAt
import Derived.OwnWalk
import Derived.Laws.BytesArg
import Derived.Laws.MakeOwn
import Derived.Laws.OwnMore
import Derived.Deep.OwnRows
import Derived.Tactics
import Derived.Lib.ConvBytes
import Derived.Laws.Slices
import Derived.WalkKit
import Derived.KernelRfl
import Derived.RowKit3
import Derived.Deep.LoopGhost
import Derived.Deep.QuietTactic
import Derived.BigQuiet
import Derived.WideLaws
import Derived.Deep.DeepCutAuto
import Derived.Deep.CutBlock
import Derived.Deep.RegionHeld3
import Derived.Laws.Rows
import Derived.Lib.AppendStr
import Derived.ArgAppend
import Derived.Laws.IdiomCopy
import Derived.OrdersHeld
import Derived.Laws.BitsLemmas
import Derived.RowKit
import Derived.Test.YtcagccodmmcnfaaWWords
import Derived.Test.YtcagccodmmcnfaaWLast
import Derived.Test.YtcagccodmmcnfaaWTab
import Derived.Test.YtcagccodmmcnfaaWKept
import Derived.Test.YtcagccodmmcnfaaWQPut
import Derived.Test.YtcagccodmmcnfaaWApart
import Derived.Test.YtcagccodmmcnfaaWZeros
import Derived.Test.YtcagccodmmcnfaaWMore
import Derived.ChangeArms
import Derived.OpenShut
import Derived.SizedLaws
section
-- Written by drv.py, a program of this session, over the kit's print, out of the translation. Not trusted: Lean checks it.
namespace Go.Proofs.Ytcagccodmmcnfaa.Q
open Go.RowKit Go.Proofs.YtcagccodmmcnfaaW.PrintWords Go.Proofs.YtcagccodmmcnfaaW.PrintLast Go.Proofs.YtcagccodmmcnfaaW.PrintMore
attribute [local go_sem] max2_int min2_int max_two min_two max_three min_three max_four min_four   -- for this text's walks alone
set_option linter.unusedVariables false
set_option linter.unusedSimpArgs false



def errW : Option Int → Value
  | none => .nilIface
  | some c => .iface 0 (.int .i64 c)
theorem errW_none : errW none = .nilIface := rfl
theorem errW_some (c : Int) : errW (some c) = .iface 0 (.int .i64 c) := rfl

theorem info5 : (Try.prog.info? 5).map (fun i => (i.zero, i.size, i.bytes)) = some (some (.int .u8 0), 1, 1) := by kernel_rfl
-- the values' own types

end Go.Proofs.Ytcagccodmmcnfaa.Q
end
section
/- code.forms: the table of all operations, as the model's call of it tells it. -/
namespace Go.Proofs.Ytcagccodmmcnfaa.Q
open Go.RowKit Go.Proofs.YtcagccodmmcnfaaW.PrintWords Go.Proofs.YtcagccodmmcnfaaW.PrintLast Go.Proofs.YtcagccodmmcnfaaW.PrintMore
set_option linter.unusedVariables false
set_option linter.unusedSimpArgs false

def form_a (i : Int) : Bool := decide (i ≤ 18) || decide (i = 22) || decide (i = 23)
def form_b (i : Int) : Bool := (decide (1 ≤ i) && decide (i ≤ 8)) || (decide (10 ≤ i) && decide (i ≤ 18))
def form_c (i : Int) : Bool := decide (1 ≤ i) && decide (i ≤ 7)
def form_w (i : Int) : Int := if i < 8 then 0 else if i ≤ 14 then 16 else if i ≤ 18 then 8 else if i ≤ 20 then 24 else 0
def form_p (i : Int) : Bool := decide (i = 9) || decide (i = 10)
def formCells : Array Value := #[.bool true, .bool false, .bool false, .int .i64 0, .bool false, .bool true, .bool true, .bool true, .int .i64 0, .bool false, .bool true, .bool true, .bool true, .int .i64 0, .bool false, .bool true, .bool true, .bool true, .int .i64 0, .bool false, .bool true, .bool true, .bool true, .int .i64 0, .bool false, .bool true, .bool true, .bool true, .int .i64 0, .bool false, .bool true, .bool true, .bool true, .int .i64 0, .bool false, .bool true, .bool true, .bool true, .int .i64 0, .bool false, .bool true, .bool true, .bool false, .int .i64 16, .bool false, .bool true, .bool false, .bool false, .int .i64 16, .bool true, .bool true, .bool true, .bool false, .int .i64 16, .bool true, .bool true, .bool true, .bool false, .int .i64 16, .bool false, .bool true, .bool true, .bool false, .int .i64 16, .bool false, .bool true, .bool true, .bool false, .int .i64 16, .bool false, .bool true, .bool true, .bool false, .int .i64 16, .bool false, .bool true, .bool true, .bool false, .int .i64 8, .bool false, .bool true, .bool true, .bool false, .int .i64 8, .bool false, .bool true, .bool true, .bool false, .int .i64 8, .bool false, .bool true, .bool true, .bool false, .int .i64 8, .bool false, .bool false, .bool false, .bool false, .int .i64 24, .bool false, .bool false, .bool false, .bool false, .int .i64 24, .bool false, .bool false, .bool false, .bool false, .int .i64 0, .bool false, .bool true, .bool false, .bool false, .int .i64 0, .bool false, .bool true, .bool false, .bool false, .int .i64 0, .bool false, .bool false, .bool false, .bool false, .int .i64 0, .bool false, .bool false, .bool false, .bool false, .int .i64 0, .bool false]
/-- The array's value (the number says nothing). -/
def arV84 (_ : Int) : Value := .agg formCells
def code_forms.f : Option Int := some 0
end Go.Proofs.Ytcagccodmmcnfaa.Q
end
section
/- A row's arguments, opened: what is read of a type is told by a kind of the print's words, and fits. Own work; a template: 'Ytcagccodmmcnfaa' is a seat's Name. -/
namespace Go.Proofs.Ytcagccodmmcnfaa.Opn
open Go.RowKit Go.Proofs.YtcagccodmmcnfaaW.PrintWords

def Opn (P : Program) (t : TypeId) {α : Type} (k : Kd α) (F : α → Prop) : Prop :=
  ∀ (H : Type) (enc : TypeId × Value → H) (W : World) (base : Nat) (spare : Nat → Bool) (held : Bool) (fuel : Nat) (cs : List Value) (x : DataW H × List MemPlace),
    DataW.trod enc P W base spare held fuel t cs = some x → (∀ n ∈ x.1.weights P t, n ≤ 140737488351232) → ∃ a, k.K W a cs ∧ F a

theorem opn_int {P : Program} {t : TypeId} {ik : IntKind} (hu : P.underlying t = some (.int ik)) : Opn P t (Kd.int ik) (fun a => (Lit.int ik a).wf = true) := by
  intro H enc W base spare held fuel cs x h _
  obtain ⟨n, rfl, rfl, hw⟩ := DataW.trod_int hu h
  exact ⟨n, rfl, hw⟩
theorem add_add (a : Addr) (i j : Nat) : (a.add i).add j = a.add (i + j) := by
  unfold Addr.add
  by_cases h1 : i = 0 <;> by_cases h2 : j = 0 <;> simp [h1, h2, Nat.add_assoc]

theorem cells_at {w : World} {base : Nat} {a : Addr} {n : Nat} {cs : List Value} (h : w.cells? base a n = some cs) : cs.length = n ∧ ∀ i u, cs[i]? = some u → w.cell? (a.add i) = some u := by
  unfold World.cells? at h
  split at h
  · refine ⟨by simpa using mapM_some_length h, fun i u hu => ?_⟩
    have hl : cs.length = n := by simpa using mapM_some_length h
    have hi : i < n := by
      rcases Nat.lt_or_ge i n with h1 | h1
      · exact h1
      · rw [List.getElem?_eq_none (by omega)] at hu; cases hu
    have := mapM_some_get h i i (by simp [hi])
    rw [this, hu]
  · cases h

theorem list_of {α : Type} {Q : Nat → α → Prop} : ∀ (n : Nat), (∀ i, i < n → ∃ a, Q i a) → ∃ xs : List α, xs.length = n ∧ ∀ i a, xs[i]? = some a → Q i a
  | 0, _ => ⟨[], rfl, fun i a h => by simp at h⟩
  | n + 1, h => by
    obtain ⟨xs, hl, hx⟩ := list_of n (fun i hi => h i (by omega))
    obtain ⟨a, ha⟩ := h n (by omega)
    refine ⟨xs ++ [a], by simp [hl], fun i b hb => ?_⟩
    rcases Nat.lt_or_ge i n with h1 | h1
    · rw [List.getElem?_append_left (by omega)] at hb
      exact hx i b hb
    · rw [List.getElem?_append_right (by omega), hl] at hb
      rcases Nat.lt_or_ge n i with h2 | h2
      · rw [List.getElem?_eq_none (by simp; omega)] at hb; cases hb
      · have h3 : i = n := by omega
        subst h3
        simp at hb
        subst hb
        exact ha

theorem weights_all {H : Type} {P : Program} {e : TypeId} : ∀ {ds : List (DataW H)} {d : DataW H}, d ∈ ds → ∀ n ∈ d.weights P e, n ∈ DataW.weightsAll P e ds
  | d0 :: ds, d, hd, n, hn => by
    simp only [DataW.weightsAll, List.mem_append]
    rcases List.mem_cons.1 hd with rfl | h
    · exact Or.inl hn
    · exact Or.inr (weights_all h n hn)
  | [], d, hd, _, _ => by cases hd

theorem opn_slice {P : Program} {t e : TypeId} {α : Type} {k : Kd α} {F : α → Prop} {B : Nat} (hu : P.underlying t = some (.slice e)) (hc : P.cellsOf e = k.sz) (hB : P.bytesOf e = B) (h : Opn P e k F) :
    Opn P t (Kd.slice e k) (fun xs => xs.length * B ≤ 140737488351232 ∧ ∀ x ∈ xs, F x) := by
  intro H enc W base spare held fuel cs x hx hw
  rcases DataW.trod_slice hu hx with ⟨rfl, rfl⟩ | ⟨a, len, cap, elems, rest, n, rfl, rfl, rfl, hb, hl, hcap, hlen, hat, _, _⟩
  · exact ⟨[], ⟨none, 0, rfl, Nat.le_refl _, Kd.C_nil _ _⟩, by simp, by simp⟩
  · simp only [DataW.weights, hu, List.mem_cons, List.mem_append] at hw
    have key : ∀ i, i < len → ∃ v : α, F v ∧ ∃ c, c.length = k.sz ∧ k.K W v c ∧ ∀ j u, c[j]? = some u → W.cell? (a.add (i * k.sz + j)) = some u := by
      intro i hi
      have h1 := hat i hi
      rw [List.getElem?_eq_getElem (by omega)] at h1
      obtain ⟨c, hc1, hc2⟩ := Option.bind_eq_some_iff.1 h1
      have hm : (elems[i]'(by omega)).1 ∈ elems.map (·.1) := List.mem_map_of_mem (List.getElem_mem _)
      obtain ⟨v, hv, hF⟩ := h H enc W base spare held n c _ hc2 (fun m hm' => hw m (Or.inr (Or.inl (weights_all hm m hm'))))
      obtain ⟨hcl, hcc⟩ := cells_at hc1
      refine ⟨v, hF, c, by rw [hcl, hc], hv, fun j u hu' => ?_⟩
      have := hcc j u hu'
      rw [add_add, hc] at this
      exact this
    obtain ⟨xs, hxl, hxs⟩ := list_of len key
    have h0 := hw _ (Or.inl rfl)
    simp only [List.length_map] at h0
    rw [hlen, hB] at h0
    have hle : len * B ≤ 140737488351232 := Nat.le_trans (Nat.mul_le_mul_right _ (Nat.le_add_right _ _)) h0
    refine ⟨xs, ⟨some a, cap, by rw [hxl], by omega, ?_⟩, by rw [hxl]; exact hle, fun v hv => ?_⟩
    · refine ⟨rfl, by rw [hxl]; unfold maxLen at hcap; omega, fun _ => ⟨a, rfl, fun j p hj => ?_⟩⟩
      obtain ⟨_, c, h1, h2, h3⟩ := hxs j p hj
      exact ⟨c, h1, h2, h3⟩
    · obtain ⟨i, hi, rfl⟩ := List.getElem_of_mem hv
      exact (hxs i _ (List.getElem?_eq_getElem hi)).1

end Go.Proofs.Ytcagccodmmcnfaa.Opn
end
