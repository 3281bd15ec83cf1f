/- place.datas: what it comes to. Own work; a template. -/
import Derived.Test.YtdnfofhfllnhiaaQ0
namespace Go.Proofs.Ytdnfofhfllnhiaa.Q
open Go.RowKit Go.Proofs.YtdnfofhfllnhiaaW.PrintWords Go.Proofs.YtdnfofhfllnhiaaW.PrintLast Go.Proofs.YtdnfofhfllnhiaaW.PrintMore
set_option linter.unusedVariables false
set_option linter.unusedSimpArgs false

/-- Up, as the code reckons it. -/
def upZ (x al : Int) : Int := if 0 ≤ x ∧ x ≤ 1099511627776 ∧ 1 ≤ al ∧ al ≤ 1048576 then (x + al - 1) / al * al else -1
/-- The closure's loop over the data from the i-th on: the places, the end. -/
def layD (fixed : Bool) : List S55 → Nat → List Int → Int → List Int × Int
  | [], _, xs, e => (xs, e)
  | d :: ds, i, xs, e => if d.f1 = fixed then layD fixed ds (i + 1) (xs.set i (upZ e d.f0)) (wrap64 (upZ e d.f0 + d.f2)) else layD fixed ds (i + 1) xs e
def place_datas.f (l0_0 : List S44) (l0_1 : List S55) (a0_2 : Int) : Option (List Int × Int × Int) :=
  if l0_1.length ≤ 35184372088832 then
    some (let r := layD true l0_1 0 (List.replicate l0_1.length 0) 0
          let w := upZ r.2 16
          let q := layD false l0_1 0 r.1 w
          (q.1, q.2, w))
  else none
theorem layD_len (fixed : Bool) : ∀ (ds : List S55) (i : Nat) (xs : List Int) (e : Int), (layD fixed ds i xs e).1.length = xs.length
  | [], _, _, _ => rfl
  | d :: ds, i, xs, e => by
    unfold layD
    split
    · rw [layD_len fixed ds]; simp
    · rw [layD_len fixed ds]
end Go.Proofs.Ytdnfofhfllnhiaa.Q
