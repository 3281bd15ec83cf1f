/-
  No cell of these rows narrows 'for every input' (looked for: loops, veiled, ifaces, maps, wideKeys, modest, calm, conditions, laid).
  DERIVED. THE GIVEN ROWS OF THIS SEAT. 5 by the template 'for every input the law returns true; each argument reads behind the call as it read before'; 0 by the template 'total and deterministic' (their statements: YtdnfofhfllnhiaaTotals.lean).
  GIVEN WITH THE SEED: the statements are not yours to turn. If you find one false, say at which input.
  Laid BY PROGRAM, IN A SANDBOX (cutbox-rows.mjs): the forced cells as the released guide's own fill.sh prints them over the translation cdf33ea602bbb068… (all of the seat's roots in one cut). By AI agents, Wed Nov 11 2026. No macro, syntax, notation, axiom, sorry.
-/
import Derived.Test.YtdnfofhfllnhiaaChecked
import GoSem.Claim
import GoSem.ClaimJoined
import GoSem.ClaimMapViews
import Derived.JoinedTies
import Derived.KernelRfl
namespace Go.Proofs.Ytdnfofhfllnhiaa
/- THE CELL 'sum', in the pinned program and in every row, IS THE sha256 OF THE DUMP (.gsa) THAT YtdnfofhfllnhiaaProg.lean LOADS. Nothing in Lean hashes anything: it is a label: what it is worth is what the hold of that sum in a sandbox is worth. -/
noncomputable def Try.pinned : Pinned := { name := "ytdnfofhfllnhiaa", sum := "cdf33ea602bbb06884edabea5ac2e7631bc6aa1076f08312ca5a3d29ae7a9fbb", checked := Try.checked }
namespace Rows
def none {H : Type} : Left H := { results := [], args := [] }

/-- 'splicelaw13.PatchCodes': WHATEVER THE INPUT: true; the input reads as it did. -/
def patchCodesSpec : ChangeSpec := { name := "patchCodes", fn := fun _ => fun
  | [d1, d2] => { results := [.lit (.bool true)], args := [d1, d2] }
  | _ => none }
def patchCodesRow : OpenClaim := { program := "ytdnfofhfllnhiaa", sum := "cdf33ea602bbb06884edabea5ac2e7631bc6aa1076f08312ca5a3d29ae7a9fbb", func := "splice/splicelaw13.PatchCodes", spec := "patchCodes", unfollowed := true, recurses := true, apart := false }
def PatchCodesSaid : Prop := patchCodesRow.holds Try.pinned (OpenSpec.ofChange patchCodesSpec)

/-- ITS FALSE NEIGHBOUR: 'it returns false'. Refute it at one input. -/
def patchCodesWrong : ChangeSpec := { name := "patchCodes", fn := fun _ => fun
  | [d1, d2] => { results := [.lit (.bool false)], args := [d1, d2] }
  | _ => none }
def PatchCodesWrongFalsely : Prop := patchCodesRow.holds Try.pinned (OpenSpec.ofChange patchCodesWrong)

/-- 'splicelaw13.PatchDatas': WHATEVER THE INPUT: true; the input reads as it did. -/
def patchDatasSpec : ChangeSpec := { name := "patchDatas", fn := fun _ => fun
  | [d1, d2] => { results := [.lit (.bool true)], args := [d1, d2] }
  | _ => none }
def patchDatasRow : OpenClaim := { program := "ytdnfofhfllnhiaa", sum := "cdf33ea602bbb06884edabea5ac2e7631bc6aa1076f08312ca5a3d29ae7a9fbb", func := "splice/splicelaw13.PatchDatas", spec := "patchDatas", unfollowed := true, recurses := true, apart := false }
def PatchDatasSaid : Prop := patchDatasRow.holds Try.pinned (OpenSpec.ofChange patchDatasSpec)

/-- ITS FALSE NEIGHBOUR: 'it returns false'. Refute it at one input. -/
def patchDatasWrong : ChangeSpec := { name := "patchDatas", fn := fun _ => fun
  | [d1, d2] => { results := [.lit (.bool false)], args := [d1, d2] }
  | _ => none }
def PatchDatasWrongFalsely : Prop := patchDatasRow.holds Try.pinned (OpenSpec.ofChange patchDatasWrong)

/-- 'splicelaw13.PatchEquation': WHATEVER THE INPUT: true; the input reads as it did. -/
def patchEquationSpec : ChangeSpec := { name := "patchEquation", fn := fun _ => fun
  | [d1, d2] => { results := [.lit (.bool true)], args := [d1, d2] }
  | _ => none }
def patchEquationRow : OpenClaim := { program := "ytdnfofhfllnhiaa", sum := "cdf33ea602bbb06884edabea5ac2e7631bc6aa1076f08312ca5a3d29ae7a9fbb", func := "splice/splicelaw13.PatchEquation", spec := "patchEquation", unfollowed := true, recurses := true, apart := false }
def PatchEquationSaid : Prop := patchEquationRow.holds Try.pinned (OpenSpec.ofChange patchEquationSpec)

/-- ITS FALSE NEIGHBOUR: 'it returns false'. Refute it at one input. -/
def patchEquationWrong : ChangeSpec := { name := "patchEquation", fn := fun _ => fun
  | [d1, d2] => { results := [.lit (.bool false)], args := [d1, d2] }
  | _ => none }
def PatchEquationWrongFalsely : Prop := patchEquationRow.holds Try.pinned (OpenSpec.ofChange patchEquationWrong)

/-- 'splicelaw13.PatchBytes': WHATEVER THE INPUT: true; the input reads as it did. -/
def patchBytesSpec : ChangeSpec := { name := "patchBytes", fn := fun _ => fun
  | [d] => { results := [.lit (.bool true)], args := [d] }
  | _ => none }
def patchBytesRow : OpenClaim := { program := "ytdnfofhfllnhiaa", sum := "cdf33ea602bbb06884edabea5ac2e7631bc6aa1076f08312ca5a3d29ae7a9fbb", func := "splice/splicelaw13.PatchBytes", spec := "patchBytes", unfollowed := true, recurses := true, apart := false }
def PatchBytesSaid : Prop := patchBytesRow.holds Try.pinned (OpenSpec.ofChange patchBytesSpec)

/-- ITS FALSE NEIGHBOUR: 'it returns false'. Refute it at one input. -/
def patchBytesWrong : ChangeSpec := { name := "patchBytes", fn := fun _ => fun
  | [d] => { results := [.lit (.bool false)], args := [d] }
  | _ => none }
def PatchBytesWrongFalsely : Prop := patchBytesRow.holds Try.pinned (OpenSpec.ofChange patchBytesWrong)

/-- 'splicelaw13.PatchKeeps': WHATEVER THE INPUT: true; the input reads as it did. -/
def patchKeepsSpec : ChangeSpec := { name := "patchKeeps", fn := fun _ => fun
  | [d] => { results := [.lit (.bool true)], args := [d] }
  | _ => none }
def patchKeepsRow : OpenClaim := { program := "ytdnfofhfllnhiaa", sum := "cdf33ea602bbb06884edabea5ac2e7631bc6aa1076f08312ca5a3d29ae7a9fbb", func := "splice/splicelaw13.PatchKeeps", spec := "patchKeeps", unfollowed := true, recurses := true, apart := false }
def PatchKeepsSaid : Prop := patchKeepsRow.holds Try.pinned (OpenSpec.ofChange patchKeepsSpec)

/-- ITS FALSE NEIGHBOUR: 'it returns false'. Refute it at one input. -/
def patchKeepsWrong : ChangeSpec := { name := "patchKeeps", fn := fun _ => fun
  | [d] => { results := [.lit (.bool false)], args := [d] }
  | _ => none }
def PatchKeepsWrongFalsely : Prop := patchKeepsRow.holds Try.pinned (OpenSpec.ofChange patchKeepsWrong)

/- THE SECOND FORM. 'bulk': how many values and letters a reading holds, each counted each time it is reached (what is shared counts as often as it is met; a slice's spare places count too). A statement '..UptoSaid' is the law's where the arguments, and the package variables that the reading takes, are together of bulk at most 1048576: NARROWER than '..Said'. Prove '..Said' where nothing that the law and all that it calls make is longer than what came in: it says more and counts as full. Else prove '..UptoSaid'. A law counts once. -/
mutual
def uptoBulk {H : Type} : DataW H → Nat
  | .lit (.string bytes) => bytes.length + 1
  | .lit _ => 1
  | .nil => 1
  | .ptr d => uptoBulk d + 1
  | .slice elems spare => uptoBulkAll elems + uptoBulkAll spare + 1
  | .agg parts => uptoBulkAll parts + 1
  | .iface _ d => uptoBulk d + 1
  | .map entries => uptoBulkEntries entries + 1
  | .held _ => 1
def uptoBulkAll {H : Type} : List (DataW H) → Nat
  | [] => 0
  | d :: r => uptoBulk d + uptoBulkAll r
def uptoBulkEntries {H : Type} : List (Lit × DataW H) → Nat
  | [] => 0
  | x :: r => uptoBulkEntry x + uptoBulkEntries r
def uptoBulkEntry {H : Type} : Lit × DataW H → Nat
  | (.string bytes, d) => bytes.length + uptoBulk d + 1
  | (_, d) => uptoBulk d + 1
 end
def uptoSmall : (H : Type) → List (DataW H) → Bool := fun _ ds => decide (uptoBulkAll ds ≤ 1048576)
def OpenSpec.upto (s : _root_.Go.ChangeSpec) : _root_.Go.OpenSpec := { _root_.Go.OpenSpec.ofChange s with cond := some uptoSmall }

/-- 'splicelaw13.PatchCodes', WHERE WHAT IT READS IS OF BULK AT MOST 1048576: true; the input reads as it did. -/
def patchCodesUptoRow : OpenClaim := { program := "ytdnfofhfllnhiaa", sum := "cdf33ea602bbb06884edabea5ac2e7631bc6aa1076f08312ca5a3d29ae7a9fbb", func := "splice/splicelaw13.PatchCodes", spec := "patchCodes", unfollowed := true, recurses := true, apart := false, narrowed := true }
def PatchCodesUptoSaid : Prop := patchCodesUptoRow.holds Try.pinned (OpenSpec.upto patchCodesSpec)

/-- 'splicelaw13.PatchDatas', WHERE WHAT IT READS IS OF BULK AT MOST 1048576: true; the input reads as it did. -/
def patchDatasUptoRow : OpenClaim := { program := "ytdnfofhfllnhiaa", sum := "cdf33ea602bbb06884edabea5ac2e7631bc6aa1076f08312ca5a3d29ae7a9fbb", func := "splice/splicelaw13.PatchDatas", spec := "patchDatas", unfollowed := true, recurses := true, apart := false, narrowed := true }
def PatchDatasUptoSaid : Prop := patchDatasUptoRow.holds Try.pinned (OpenSpec.upto patchDatasSpec)

/-- 'splicelaw13.PatchEquation', WHERE WHAT IT READS IS OF BULK AT MOST 1048576: true; the input reads as it did. -/
def patchEquationUptoRow : OpenClaim := { program := "ytdnfofhfllnhiaa", sum := "cdf33ea602bbb06884edabea5ac2e7631bc6aa1076f08312ca5a3d29ae7a9fbb", func := "splice/splicelaw13.PatchEquation", spec := "patchEquation", unfollowed := true, recurses := true, apart := false, narrowed := true }
def PatchEquationUptoSaid : Prop := patchEquationUptoRow.holds Try.pinned (OpenSpec.upto patchEquationSpec)

/-- 'splicelaw13.PatchBytes', WHERE WHAT IT READS IS OF BULK AT MOST 1048576: true; the input reads as it did. -/
def patchBytesUptoRow : OpenClaim := { program := "ytdnfofhfllnhiaa", sum := "cdf33ea602bbb06884edabea5ac2e7631bc6aa1076f08312ca5a3d29ae7a9fbb", func := "splice/splicelaw13.PatchBytes", spec := "patchBytes", unfollowed := true, recurses := true, apart := false, narrowed := true }
def PatchBytesUptoSaid : Prop := patchBytesUptoRow.holds Try.pinned (OpenSpec.upto patchBytesSpec)

/-- 'splicelaw13.PatchKeeps', WHERE WHAT IT READS IS OF BULK AT MOST 1048576: true; the input reads as it did. -/
def patchKeepsUptoRow : OpenClaim := { program := "ytdnfofhfllnhiaa", sum := "cdf33ea602bbb06884edabea5ac2e7631bc6aa1076f08312ca5a3d29ae7a9fbb", func := "splice/splicelaw13.PatchKeeps", spec := "patchKeeps", unfollowed := true, recurses := true, apart := false, narrowed := true }
def PatchKeepsUptoSaid : Prop := patchKeepsUptoRow.holds Try.pinned (OpenSpec.upto patchKeepsSpec)

end Rows
end Go.Proofs.Ytdnfofhfllnhiaa
