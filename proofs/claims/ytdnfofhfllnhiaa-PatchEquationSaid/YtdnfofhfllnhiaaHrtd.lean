/- spliceref13.Right: what it comes to. Own work; a template. -/
import Derived.Test.YtdnfofhfllnhiaaQ0
import Derived.Test.YtdnfofhfllnhiaaHrgd
namespace Go.Proofs.Ytdnfofhfllnhiaa.Q
open Go.RowKit Go.Proofs.YtdnfofhfllnhiaaW.PrintWords Go.Proofs.YtdnfofhfllnhiaaW.PrintLast Go.Proofs.YtdnfofhfllnhiaaW.PrintMore
set_option linter.unusedVariables false
set_option linter.unusedSimpArgs false
/-- The first half of what a function's relocation must be: its place, its reach. -/
def relC0 (f : S44) (j : Nat) : Bool :=
  let r := rd_T46 f.f4 j
  if r.f0 < 0 then true else if (f.f3.length : Int) ≤ r.f0 then true else if 0 < j ∧ r.f0 ≤ (rd_T46 f.f4 ((j : Int) - 1)).f0 then true else if r.f3 < -1048576 then true else if 1048576 < r.f3 then true else decide (r.f2 < 0)
/-- The second: its kind goes with its instruction. -/
def relC1 (n m : Int) (f : S44) (j : Nat) : Bool :=
  let r := rd_T46 f.f4 j
  let x := Code.getB (Code.gW (rd f.f3 r.f0))
  x.2.2.2.2.2 && ((r.f1 == 1 && (x.1 == 19 || x.1 == 20) && decide (r.f2 < n)) || ((r.f1 == 2 && x.1 == 9 || r.f1 == 3 && x.1 == 10) && decide (r.f2 < m)))
def relC (n m : Int) (f : S44) (j : Nat) : Bool := !relC0 f j && relC1 n m f j
/-- A relocation of data. -/
def relD0 (m : Int) (d : S55) (j : Nat) : Bool :=
  let r := rd_T46 d.f4 j
  if r.f1 ≠ 4 then true else if r.f0 < 0 then true else if wrap64 (d.f2 - 4) < r.f0 then true else if 0 < j ∧ wrap64 (r.f0 - (rd_T46 d.f4 ((j : Int) - 1)).f0) < 4 then true else if r.f2 < 0 then true else if m ≤ r.f2 then true else if r.f3 < -1048576 then true else decide (1048576 < r.f3)
def relsC (n m : Int) (f : S44) : Bool := (List.range f.f4.length).all fun j => relC n m f j
def relsD (m : Int) (d : S55) : Bool := (List.range d.f4.length).all fun j => !relD0 m d j
def rightB (l0 : List S44) (l1 : List S55) : Bool :=
  (List.range l0.length).all (fun i => relsC l0.length l1.length (rd_T44 l0 i)) && (List.range l1.length).all (fun i => relsD l1.length (rd_T55 l1 i))
/-- What the walk needs to know of the sizes. -/
def rightS (l0 : List S44) (l1 : List S55) : Prop :=
  l0.length ≤ 35184372088832 ∧ l1.length ≤ 35184372088832 ∧ (∀ f ∈ l0, f.f4.length ≤ 35184372088832 ∧ f.f3.length ≤ 35184372088832 ∧ ∀ x ∈ f.f3, 0 ≤ x ∧ x ≤ 4294967295) ∧ ∀ d ∈ l1, d.f4.length ≤ 35184372088832
instance (l0 : List S44) (l1 : List S55) : Decidable (rightS l0 l1) := by unfold rightS; infer_instance
def spliceref13_Right.f (l0_0 : List S44) (l0_1 : List S55) (a0_2 : Int) : Option Bool := if rightS l0_0 l0_1 then some (rightB l0_0 l0_1) else none
/-- All from the i-th on. -/
def allFrom (p : Nat → Bool) (n i : Nat) : Bool := (List.range' i (n - i)).all p
theorem allFrom_step (p : Nat → Bool) (n i : Nat) (h : i < n) : allFrom p n i = (p i && allFrom p n (i + 1)) := by
  unfold allFrom
  obtain ⟨d, hd⟩ : ∃ d, n - i = d + 1 := ⟨n - i - 1, by omega⟩
  rw [hd, List.range'_succ, List.all_cons, show n - (i + 1) = d by omega]
theorem allFrom_end (p : Nat → Bool) (n i : Nat) (h : n ≤ i) : allFrom p n i = true := by
  unfold allFrom
  rw [show n - i = 0 by omega]
  rfl
theorem allFrom_all (p : Nat → Bool) (n : Nat) : allFrom p n 0 = (List.range n).all p := by
  unfold allFrom
  rw [List.range_eq_range']
  rfl
end Go.Proofs.Ytdnfofhfllnhiaa.Q
