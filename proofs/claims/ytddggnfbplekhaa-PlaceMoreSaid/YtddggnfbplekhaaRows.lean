/-
  No cell of these rows narrows 'for every input' (looked for: loops, veiled, ifaces, maps, wideKeys, modest, calm, conditions, laid).
  DERIVED. THE GIVEN ROWS OF THIS SEAT. 5 by the template 'for every input the law returns true; each argument reads behind the call as it read before'; 0 by the template 'total and deterministic' (their statements: YtddggnfbplekhaaTotals.lean).
  GIVEN WITH THE SEED: the statements are not yours to turn. If you find one false, say at which input.
  Laid BY PROGRAM, IN A SANDBOX (cutbox-rows.mjs): the forced cells as the released guide's own fill.sh prints them over the translation 88d89da3f80dc8ca… (all of the seat's roots in one cut). By AI agents, Wed Nov 11 2026. No macro, syntax, notation, axiom, sorry.
-/
import Derived.Test.YtddggnfbplekhaaChecked
import GoSem.Claim
import GoSem.ClaimJoined
import GoSem.ClaimMapViews
import Derived.JoinedTies
import Derived.KernelRfl
namespace Go.Proofs.Ytddggnfbplekhaa
/- THE CELL 'sum', in the pinned program and in every row, IS THE sha256 OF THE DUMP (.gsa) THAT YtddggnfbplekhaaProg.lean LOADS. Nothing in Lean hashes anything: it is a label: what it is worth is what the hold of that sum in a sandbox is worth. -/
noncomputable def Try.pinned : Pinned := { name := "ytddggnfbplekhaa", sum := "88d89da3f80dc8ca48af289fb709e5b812966356fcd834f0f1dfc9d70858d864", checked := Try.checked }
namespace Rows
def none {H : Type} : Left H := { results := [], args := [] }

/-- 'splicelaw12.PlacePlans': WHATEVER THE INPUT: true; the input reads as it did. -/
def placePlansSpec : ChangeSpec := { name := "placePlans", fn := fun _ => fun
  | [d1, d2] => { results := [.lit (.bool true)], args := [d1, d2] }
  | _ => none }
def placePlansRow : OpenClaim := { program := "ytddggnfbplekhaa", sum := "88d89da3f80dc8ca48af289fb709e5b812966356fcd834f0f1dfc9d70858d864", func := "splice/splicelaw12.PlacePlans", spec := "placePlans", unfollowed := true, recurses := true, apart := false }
def PlacePlansSaid : Prop := placePlansRow.holds Try.pinned (OpenSpec.ofChange placePlansSpec)

/-- ITS FALSE NEIGHBOUR: 'it returns false'. Refute it at one input. -/
def placePlansWrong : ChangeSpec := { name := "placePlans", fn := fun _ => fun
  | [d1, d2] => { results := [.lit (.bool false)], args := [d1, d2] }
  | _ => none }
def PlacePlansWrongFalsely : Prop := placePlansRow.holds Try.pinned (OpenSpec.ofChange placePlansWrong)

/-- 'splicelaw12.PlaceApart': WHATEVER THE INPUT: true; the input reads as it did. -/
def placeApartSpec : ChangeSpec := { name := "placeApart", fn := fun _ => fun
  | [d1, d2] => { results := [.lit (.bool true)], args := [d1, d2] }
  | _ => none }
def placeApartRow : OpenClaim := { program := "ytddggnfbplekhaa", sum := "88d89da3f80dc8ca48af289fb709e5b812966356fcd834f0f1dfc9d70858d864", func := "splice/splicelaw12.PlaceApart", spec := "placeApart", unfollowed := true, recurses := true, apart := false }
def PlaceApartSaid : Prop := placeApartRow.holds Try.pinned (OpenSpec.ofChange placeApartSpec)

/-- ITS FALSE NEIGHBOUR: 'it returns false'. Refute it at one input. -/
def placeApartWrong : ChangeSpec := { name := "placeApart", fn := fun _ => fun
  | [d1, d2] => { results := [.lit (.bool false)], args := [d1, d2] }
  | _ => none }
def PlaceApartWrongFalsely : Prop := placeApartRow.holds Try.pinned (OpenSpec.ofChange placeApartWrong)

/-- 'splicelaw12.PlaceOrders': WHATEVER THE INPUT: true; the input reads as it did. -/
def placeOrdersSpec : ChangeSpec := { name := "placeOrders", fn := fun _ => fun
  | [d1, d2] => { results := [.lit (.bool true)], args := [d1, d2] }
  | _ => none }
def placeOrdersRow : OpenClaim := { program := "ytddggnfbplekhaa", sum := "88d89da3f80dc8ca48af289fb709e5b812966356fcd834f0f1dfc9d70858d864", func := "splice/splicelaw12.PlaceOrders", spec := "placeOrders", unfollowed := true, recurses := true, apart := false }
def PlaceOrdersSaid : Prop := placeOrdersRow.holds Try.pinned (OpenSpec.ofChange placeOrdersSpec)

/-- ITS FALSE NEIGHBOUR: 'it returns false'. Refute it at one input. -/
def placeOrdersWrong : ChangeSpec := { name := "placeOrders", fn := fun _ => fun
  | [d1, d2] => { results := [.lit (.bool false)], args := [d1, d2] }
  | _ => none }
def PlaceOrdersWrongFalsely : Prop := placeOrdersRow.holds Try.pinned (OpenSpec.ofChange placeOrdersWrong)

/-- 'splicelaw12.PlaceKeeps': WHATEVER THE INPUT: true; the input reads as it did. -/
def placeKeepsSpec : ChangeSpec := { name := "placeKeeps", fn := fun _ => fun
  | [d] => { results := [.lit (.bool true)], args := [d] }
  | _ => none }
def placeKeepsRow : OpenClaim := { program := "ytddggnfbplekhaa", sum := "88d89da3f80dc8ca48af289fb709e5b812966356fcd834f0f1dfc9d70858d864", func := "splice/splicelaw12.PlaceKeeps", spec := "placeKeeps", unfollowed := true, recurses := true, apart := false }
def PlaceKeepsSaid : Prop := placeKeepsRow.holds Try.pinned (OpenSpec.ofChange placeKeepsSpec)

/-- ITS FALSE NEIGHBOUR: 'it returns false'. Refute it at one input. -/
def placeKeepsWrong : ChangeSpec := { name := "placeKeeps", fn := fun _ => fun
  | [d] => { results := [.lit (.bool false)], args := [d] }
  | _ => none }
def PlaceKeepsWrongFalsely : Prop := placeKeepsRow.holds Try.pinned (OpenSpec.ofChange placeKeepsWrong)

/-- 'splicelaw12.PlaceMore': WHATEVER THE INPUT: true; the input reads as it did. -/
def placeMoreSpec : ChangeSpec := { name := "placeMore", fn := fun _ => fun
  | [d1, d2, d3] => { results := [.lit (.bool true)], args := [d1, d2, d3] }
  | _ => none }
def placeMoreRow : OpenClaim := { program := "ytddggnfbplekhaa", sum := "88d89da3f80dc8ca48af289fb709e5b812966356fcd834f0f1dfc9d70858d864", func := "splice/splicelaw12.PlaceMore", spec := "placeMore", unfollowed := true, recurses := true, apart := false }
def PlaceMoreSaid : Prop := placeMoreRow.holds Try.pinned (OpenSpec.ofChange placeMoreSpec)

/-- ITS FALSE NEIGHBOUR: 'it returns false'. Refute it at one input. -/
def placeMoreWrong : ChangeSpec := { name := "placeMore", fn := fun _ => fun
  | [d1, d2, d3] => { results := [.lit (.bool false)], args := [d1, d2, d3] }
  | _ => none }
def PlaceMoreWrongFalsely : Prop := placeMoreRow.holds Try.pinned (OpenSpec.ofChange placeMoreWrong)

/- THE SECOND FORM. 'bulk': how many values and letters a reading holds, each counted each time it is reached (what is shared counts as often as it is met; a slice's spare places count too). A statement '..UptoSaid' is the law's where the arguments, and the package variables that the reading takes, are together of bulk at most 1048576: NARROWER than '..Said'. Prove '..Said' where nothing that the law and all that it calls make is longer than what came in: it says more and counts as full. Else prove '..UptoSaid'. A law counts once. -/
mutual
def uptoBulk {H : Type} : DataW H → Nat
  | .lit (.string bytes) => bytes.length + 1
  | .lit _ => 1
  | .nil => 1
  | .ptr d => uptoBulk d + 1
  | .slice elems spare => uptoBulkAll elems + uptoBulkAll spare + 1
  | .agg parts => uptoBulkAll parts + 1
  | .iface _ d => uptoBulk d + 1
  | .map entries => uptoBulkEntries entries + 1
  | .held _ => 1
def uptoBulkAll {H : Type} : List (DataW H) → Nat
  | [] => 0
  | d :: r => uptoBulk d + uptoBulkAll r
def uptoBulkEntries {H : Type} : List (Lit × DataW H) → Nat
  | [] => 0
  | x :: r => uptoBulkEntry x + uptoBulkEntries r
def uptoBulkEntry {H : Type} : Lit × DataW H → Nat
  | (.string bytes, d) => bytes.length + uptoBulk d + 1
  | (_, d) => uptoBulk d + 1
 end
def uptoSmall : (H : Type) → List (DataW H) → Bool := fun _ ds => decide (uptoBulkAll ds ≤ 1048576)
def OpenSpec.upto (s : _root_.Go.ChangeSpec) : _root_.Go.OpenSpec := { _root_.Go.OpenSpec.ofChange s with cond := some uptoSmall }

/-- 'splicelaw12.PlacePlans', WHERE WHAT IT READS IS OF BULK AT MOST 1048576: true; the input reads as it did. -/
def placePlansUptoRow : OpenClaim := { program := "ytddggnfbplekhaa", sum := "88d89da3f80dc8ca48af289fb709e5b812966356fcd834f0f1dfc9d70858d864", func := "splice/splicelaw12.PlacePlans", spec := "placePlans", unfollowed := true, recurses := true, apart := false, narrowed := true }
def PlacePlansUptoSaid : Prop := placePlansUptoRow.holds Try.pinned (OpenSpec.upto placePlansSpec)

/-- 'splicelaw12.PlaceApart', WHERE WHAT IT READS IS OF BULK AT MOST 1048576: true; the input reads as it did. -/
def placeApartUptoRow : OpenClaim := { program := "ytddggnfbplekhaa", sum := "88d89da3f80dc8ca48af289fb709e5b812966356fcd834f0f1dfc9d70858d864", func := "splice/splicelaw12.PlaceApart", spec := "placeApart", unfollowed := true, recurses := true, apart := false, narrowed := true }
def PlaceApartUptoSaid : Prop := placeApartUptoRow.holds Try.pinned (OpenSpec.upto placeApartSpec)

/-- 'splicelaw12.PlaceOrders', WHERE WHAT IT READS IS OF BULK AT MOST 1048576: true; the input reads as it did. -/
def placeOrdersUptoRow : OpenClaim := { program := "ytddggnfbplekhaa", sum := "88d89da3f80dc8ca48af289fb709e5b812966356fcd834f0f1dfc9d70858d864", func := "splice/splicelaw12.PlaceOrders", spec := "placeOrders", unfollowed := true, recurses := true, apart := false, narrowed := true }
def PlaceOrdersUptoSaid : Prop := placeOrdersUptoRow.holds Try.pinned (OpenSpec.upto placeOrdersSpec)

/-- 'splicelaw12.PlaceKeeps', WHERE WHAT IT READS IS OF BULK AT MOST 1048576: true; the input reads as it did. -/
def placeKeepsUptoRow : OpenClaim := { program := "ytddggnfbplekhaa", sum := "88d89da3f80dc8ca48af289fb709e5b812966356fcd834f0f1dfc9d70858d864", func := "splice/splicelaw12.PlaceKeeps", spec := "placeKeeps", unfollowed := true, recurses := true, apart := false, narrowed := true }
def PlaceKeepsUptoSaid : Prop := placeKeepsUptoRow.holds Try.pinned (OpenSpec.upto placeKeepsSpec)

/-- 'splicelaw12.PlaceMore', WHERE WHAT IT READS IS OF BULK AT MOST 1048576: true; the input reads as it did. -/
def placeMoreUptoRow : OpenClaim := { program := "ytddggnfbplekhaa", sum := "88d89da3f80dc8ca48af289fb709e5b812966356fcd834f0f1dfc9d70858d864", func := "splice/splicelaw12.PlaceMore", spec := "placeMore", unfollowed := true, recurses := true, apart := false, narrowed := true }
def PlaceMoreUptoSaid : Prop := placeMoreUptoRow.holds Try.pinned (OpenSpec.upto placeMoreSpec)

end Rows
end Go.Proofs.Ytddggnfbplekhaa
