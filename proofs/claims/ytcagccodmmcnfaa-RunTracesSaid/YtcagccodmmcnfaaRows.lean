/-
  No cell of these rows narrows 'for every input' (looked for: loops, veiled, ifaces, maps, wideKeys, modest, calm, conditions, laid).
  DERIVED. THE GIVEN ROWS OF THIS SEAT. 5 by the template 'for every input the law returns true; each argument reads behind the call as it read before'; 0 by the template 'total and deterministic' (their statements: YtcagccodmmcnfaaTotals.lean).
  GIVEN WITH THE SEED: the statements are not yours to turn. If you find one false, say at which input.
  Laid BY PROGRAM, IN A SANDBOX (cutbox-rows.mjs): the forced cells as the released guide's own fill.sh prints them over the translation 40a3f878aa2ca58f… (all of the seat's roots in one cut). By AI agents, Wed Nov 11 2026. No macro, syntax, notation, axiom, sorry.
-/
import Derived.Test.YtcagccodmmcnfaaChecked
import GoSem.Claim
import GoSem.ClaimJoined
import GoSem.ClaimMapViews
import Derived.JoinedTies
import Derived.KernelRfl
namespace Go.Proofs.Ytcagccodmmcnfaa
/- THE CELL 'sum', in the pinned program and in every row, IS THE sha256 OF THE DUMP (.gsa) THAT YtcagccodmmcnfaaProg.lean LOADS. Nothing in Lean hashes anything: it is a label: what it is worth is what the hold of that sum in a sandbox is worth. -/
noncomputable def Try.pinned : Pinned := { name := "ytcagccodmmcnfaa", sum := "40a3f878aa2ca58fb85fe78c56245d068530cb9f8c2c7fe9e429718b8bb94541", checked := Try.checked }
namespace Rows
def none {H : Type} : Left H := { results := [], args := [] }

/-- 'splicelaw07.RunTraces': WHATEVER THE INPUT: true; the input reads as it did. -/
def runTracesSpec : ChangeSpec := { name := "runTraces", fn := fun _ => fun
  | [d1, d2, d3] => { results := [.lit (.bool true)], args := [d1, d2, d3] }
  | _ => none }
def runTracesRow : OpenClaim := { program := "ytcagccodmmcnfaa", sum := "40a3f878aa2ca58fb85fe78c56245d068530cb9f8c2c7fe9e429718b8bb94541", func := "splice/splicelaw07.RunTraces", spec := "runTraces", apart := false }
def RunTracesSaid : Prop := runTracesRow.holds Try.pinned (OpenSpec.ofChange runTracesSpec)

/-- ITS FALSE NEIGHBOUR: 'it returns false'. Refute it at one input. -/
def runTracesWrong : ChangeSpec := { name := "runTraces", fn := fun _ => fun
  | [d1, d2, d3] => { results := [.lit (.bool false)], args := [d1, d2, d3] }
  | _ => none }
def RunTracesWrongFalsely : Prop := runTracesRow.holds Try.pinned (OpenSpec.ofChange runTracesWrong)

/-- 'splicelaw07.RunParts': WHATEVER THE INPUT: true; the input reads as it did. -/
def runPartsSpec : ChangeSpec := { name := "runParts", fn := fun _ => fun
  | [d1, d2, d3, d4] => { results := [.lit (.bool true)], args := [d1, d2, d3, d4] }
  | _ => none }
def runPartsRow : OpenClaim := { program := "ytcagccodmmcnfaa", sum := "40a3f878aa2ca58fb85fe78c56245d068530cb9f8c2c7fe9e429718b8bb94541", func := "splice/splicelaw07.RunParts", spec := "runParts", apart := false }
def RunPartsSaid : Prop := runPartsRow.holds Try.pinned (OpenSpec.ofChange runPartsSpec)

/-- ITS FALSE NEIGHBOUR: 'it returns false'. Refute it at one input. -/
def runPartsWrong : ChangeSpec := { name := "runParts", fn := fun _ => fun
  | [d1, d2, d3, d4] => { results := [.lit (.bool false)], args := [d1, d2, d3, d4] }
  | _ => none }
def RunPartsWrongFalsely : Prop := runPartsRow.holds Try.pinned (OpenSpec.ofChange runPartsWrong)

/-- 'splicelaw07.RunAlikes': WHATEVER THE INPUT: true; the input reads as it did. -/
def runAlikesSpec : ChangeSpec := { name := "runAlikes", fn := fun _ => fun
  | [d1, d2] => { results := [.lit (.bool true)], args := [d1, d2] }
  | _ => none }
def runAlikesRow : OpenClaim := { program := "ytcagccodmmcnfaa", sum := "40a3f878aa2ca58fb85fe78c56245d068530cb9f8c2c7fe9e429718b8bb94541", func := "splice/splicelaw07.RunAlikes", spec := "runAlikes", apart := false }
def RunAlikesSaid : Prop := runAlikesRow.holds Try.pinned (OpenSpec.ofChange runAlikesSpec)

/-- ITS FALSE NEIGHBOUR: 'it returns false'. Refute it at one input. -/
def runAlikesWrong : ChangeSpec := { name := "runAlikes", fn := fun _ => fun
  | [d1, d2] => { results := [.lit (.bool false)], args := [d1, d2] }
  | _ => none }
def RunAlikesWrongFalsely : Prop := runAlikesRow.holds Try.pinned (OpenSpec.ofChange runAlikesWrong)

/-- 'splicelaw07.RunKeeps': WHATEVER THE INPUT: true; the input reads as it did. -/
def runKeepsSpec : ChangeSpec := { name := "runKeeps", fn := fun _ => fun
  | [d1, d2] => { results := [.lit (.bool true)], args := [d1, d2] }
  | _ => none }
def runKeepsRow : OpenClaim := { program := "ytcagccodmmcnfaa", sum := "40a3f878aa2ca58fb85fe78c56245d068530cb9f8c2c7fe9e429718b8bb94541", func := "splice/splicelaw07.RunKeeps", spec := "runKeeps", apart := false }
def RunKeepsSaid : Prop := runKeepsRow.holds Try.pinned (OpenSpec.ofChange runKeepsSpec)

/-- ITS FALSE NEIGHBOUR: 'it returns false'. Refute it at one input. -/
def runKeepsWrong : ChangeSpec := { name := "runKeeps", fn := fun _ => fun
  | [d1, d2] => { results := [.lit (.bool false)], args := [d1, d2] }
  | _ => none }
def RunKeepsWrongFalsely : Prop := runKeepsRow.holds Try.pinned (OpenSpec.ofChange runKeepsWrong)

/-- 'splicelaw07.RunEnds': WHATEVER THE INPUT: true; the input reads as it did. -/
def runEndsSpec : ChangeSpec := { name := "runEnds", fn := fun _ => fun
  | [d1, d2, d3, d4] => { results := [.lit (.bool true)], args := [d1, d2, d3, d4] }
  | _ => none }
def runEndsRow : OpenClaim := { program := "ytcagccodmmcnfaa", sum := "40a3f878aa2ca58fb85fe78c56245d068530cb9f8c2c7fe9e429718b8bb94541", func := "splice/splicelaw07.RunEnds", spec := "runEnds", apart := false }
def RunEndsSaid : Prop := runEndsRow.holds Try.pinned (OpenSpec.ofChange runEndsSpec)

/-- ITS FALSE NEIGHBOUR: 'it returns false'. Refute it at one input. -/
def runEndsWrong : ChangeSpec := { name := "runEnds", fn := fun _ => fun
  | [d1, d2, d3, d4] => { results := [.lit (.bool false)], args := [d1, d2, d3, d4] }
  | _ => none }
def RunEndsWrongFalsely : Prop := runEndsRow.holds Try.pinned (OpenSpec.ofChange runEndsWrong)

/- THE SECOND FORM. 'bulk': how many values and letters a reading holds, each counted each time it is reached (what is shared counts as often as it is met; a slice's spare places count too). A statement '..UptoSaid' is the law's where the arguments, and the package variables that the reading takes, are together of bulk at most 1048576: NARROWER than '..Said'. Prove '..Said' where nothing that the law and all that it calls make is longer than what came in: it says more and counts as full. Else prove '..UptoSaid'. A law counts once. -/
mutual
def uptoBulk {H : Type} : DataW H → Nat
  | .lit (.string bytes) => bytes.length + 1
  | .lit _ => 1
  | .nil => 1
  | .ptr d => uptoBulk d + 1
  | .slice elems spare => uptoBulkAll elems + uptoBulkAll spare + 1
  | .agg parts => uptoBulkAll parts + 1
  | .iface _ d => uptoBulk d + 1
  | .map entries => uptoBulkEntries entries + 1
  | .held _ => 1
def uptoBulkAll {H : Type} : List (DataW H) → Nat
  | [] => 0
  | d :: r => uptoBulk d + uptoBulkAll r
def uptoBulkEntries {H : Type} : List (Lit × DataW H) → Nat
  | [] => 0
  | x :: r => uptoBulkEntry x + uptoBulkEntries r
def uptoBulkEntry {H : Type} : Lit × DataW H → Nat
  | (.string bytes, d) => bytes.length + uptoBulk d + 1
  | (_, d) => uptoBulk d + 1
 end
def uptoSmall : (H : Type) → List (DataW H) → Bool := fun _ ds => decide (uptoBulkAll ds ≤ 1048576)
def OpenSpec.upto (s : _root_.Go.ChangeSpec) : _root_.Go.OpenSpec := { _root_.Go.OpenSpec.ofChange s with cond := some uptoSmall }

/-- 'splicelaw07.RunTraces', WHERE WHAT IT READS IS OF BULK AT MOST 1048576: true; the input reads as it did. -/
def runTracesUptoRow : OpenClaim := { program := "ytcagccodmmcnfaa", sum := "40a3f878aa2ca58fb85fe78c56245d068530cb9f8c2c7fe9e429718b8bb94541", func := "splice/splicelaw07.RunTraces", spec := "runTraces", apart := false, narrowed := true }
def RunTracesUptoSaid : Prop := runTracesUptoRow.holds Try.pinned (OpenSpec.upto runTracesSpec)

/-- 'splicelaw07.RunParts', WHERE WHAT IT READS IS OF BULK AT MOST 1048576: true; the input reads as it did. -/
def runPartsUptoRow : OpenClaim := { program := "ytcagccodmmcnfaa", sum := "40a3f878aa2ca58fb85fe78c56245d068530cb9f8c2c7fe9e429718b8bb94541", func := "splice/splicelaw07.RunParts", spec := "runParts", apart := false, narrowed := true }
def RunPartsUptoSaid : Prop := runPartsUptoRow.holds Try.pinned (OpenSpec.upto runPartsSpec)

/-- 'splicelaw07.RunAlikes', WHERE WHAT IT READS IS OF BULK AT MOST 1048576: true; the input reads as it did. -/
def runAlikesUptoRow : OpenClaim := { program := "ytcagccodmmcnfaa", sum := "40a3f878aa2ca58fb85fe78c56245d068530cb9f8c2c7fe9e429718b8bb94541", func := "splice/splicelaw07.RunAlikes", spec := "runAlikes", apart := false, narrowed := true }
def RunAlikesUptoSaid : Prop := runAlikesUptoRow.holds Try.pinned (OpenSpec.upto runAlikesSpec)

/-- 'splicelaw07.RunKeeps', WHERE WHAT IT READS IS OF BULK AT MOST 1048576: true; the input reads as it did. -/
def runKeepsUptoRow : OpenClaim := { program := "ytcagccodmmcnfaa", sum := "40a3f878aa2ca58fb85fe78c56245d068530cb9f8c2c7fe9e429718b8bb94541", func := "splice/splicelaw07.RunKeeps", spec := "runKeeps", apart := false, narrowed := true }
def RunKeepsUptoSaid : Prop := runKeepsUptoRow.holds Try.pinned (OpenSpec.upto runKeepsSpec)

/-- 'splicelaw07.RunEnds', WHERE WHAT IT READS IS OF BULK AT MOST 1048576: true; the input reads as it did. -/
def runEndsUptoRow : OpenClaim := { program := "ytcagccodmmcnfaa", sum := "40a3f878aa2ca58fb85fe78c56245d068530cb9f8c2c7fe9e429718b8bb94541", func := "splice/splicelaw07.RunEnds", spec := "runEnds", apart := false, narrowed := true }
def RunEndsUptoSaid : Prop := runEndsUptoRow.holds Try.pinned (OpenSpec.upto runEndsSpec)

end Rows
end Go.Proofs.Ytcagccodmmcnfaa
