/-
  No cell of these rows narrows 'for every input' (looked for: loops, veiled, ifaces, maps, wideKeys, modest, calm, conditions, laid).
  DERIVED. THE GIVEN ROWS OF THIS SEAT. 4 by the template 'for every input the law returns true; each argument reads behind the call as it read before'; 0 by the template 'total and deterministic' (their statements: YtgaggfekgkedpaaTotals.lean).
  GIVEN WITH THE SEED: the statements are not yours to turn. If you find one false, say at which input.
  Laid BY PROGRAM, IN A SANDBOX (cutbox-rows.mjs): the forced cells as the released guide's own fill.sh prints them over the translation fd1394999afbcbd9… (all of the seat's roots in one cut). By AI agents, Wed Nov 11 2026. No macro, syntax, notation, axiom, sorry.
-/
import Derived.Test.YtgaggfekgkedpaaChecked
import GoSem.Claim
import GoSem.ClaimJoined
import GoSem.ClaimMapViews
import Derived.JoinedTies
import Derived.KernelRfl
namespace Go.Proofs.Ytgaggfekgkedpaa
/- THE CELL 'sum', in the pinned program and in every row, IS THE sha256 OF THE DUMP (.gsa) THAT YtgaggfekgkedpaaProg.lean LOADS. Nothing in Lean hashes anything: it is a label: what it is worth is what the hold of that sum in a sandbox is worth. -/
noncomputable def Try.pinned : Pinned := { name := "ytgaggfekgkedpaa", sum := "fd1394999afbcbd92bb0bab7ff90d40dac146eec343448c61bd65f26e65aa19d", checked := Try.checked }
namespace Rows
def none {H : Type} : Left H := { results := [], args := [] }

/-- 'splicelaw06.CpuNews': WHATEVER THE INPUT: true; the input reads as it did. -/
def cpuNewsSpec : ChangeSpec := { name := "cpuNews", fn := fun _ => fun
  | [d1, d2, d3] => { results := [.lit (.bool true)], args := [d1, d2, d3] }
  | _ => none }
def cpuNewsRow : OpenClaim := { program := "ytgaggfekgkedpaa", sum := "fd1394999afbcbd92bb0bab7ff90d40dac146eec343448c61bd65f26e65aa19d", func := "splice/splicelaw06.CpuNews", spec := "cpuNews", apart := false }
def CpuNewsSaid : Prop := cpuNewsRow.holds Try.pinned (OpenSpec.ofChange cpuNewsSpec)

/-- ITS FALSE NEIGHBOUR: 'it returns false'. Refute it at one input. -/
def cpuNewsWrong : ChangeSpec := { name := "cpuNews", fn := fun _ => fun
  | [d1, d2, d3] => { results := [.lit (.bool false)], args := [d1, d2, d3] }
  | _ => none }
def CpuNewsWrongFalsely : Prop := cpuNewsRow.holds Try.pinned (OpenSpec.ofChange cpuNewsWrong)

/-- 'splicelaw06.CpuAlone': WHATEVER THE INPUT: true; the input reads as it did. -/
def cpuAloneSpec : ChangeSpec := { name := "cpuAlone", fn := fun _ => fun
  | [d1, d2] => { results := [.lit (.bool true)], args := [d1, d2] }
  | _ => none }
def cpuAloneRow : OpenClaim := { program := "ytgaggfekgkedpaa", sum := "fd1394999afbcbd92bb0bab7ff90d40dac146eec343448c61bd65f26e65aa19d", func := "splice/splicelaw06.CpuAlone", spec := "cpuAlone", apart := false }
def CpuAloneSaid : Prop := cpuAloneRow.holds Try.pinned (OpenSpec.ofChange cpuAloneSpec)

/-- ITS FALSE NEIGHBOUR: 'it returns false'. Refute it at one input. -/
def cpuAloneWrong : ChangeSpec := { name := "cpuAlone", fn := fun _ => fun
  | [d1, d2] => { results := [.lit (.bool false)], args := [d1, d2] }
  | _ => none }
def CpuAloneWrongFalsely : Prop := cpuAloneRow.holds Try.pinned (OpenSpec.ofChange cpuAloneWrong)

/-- 'splicelaw06.CpuCalls': WHATEVER THE INPUT: true; the input reads as it did. -/
def cpuCallsSpec : ChangeSpec := { name := "cpuCalls", fn := fun _ => fun
  | [d1, d2, d3] => { results := [.lit (.bool true)], args := [d1, d2, d3] }
  | _ => none }
def cpuCallsRow : OpenClaim := { program := "ytgaggfekgkedpaa", sum := "fd1394999afbcbd92bb0bab7ff90d40dac146eec343448c61bd65f26e65aa19d", func := "splice/splicelaw06.CpuCalls", spec := "cpuCalls", apart := false }
def CpuCallsSaid : Prop := cpuCallsRow.holds Try.pinned (OpenSpec.ofChange cpuCallsSpec)

/-- ITS FALSE NEIGHBOUR: 'it returns false'. Refute it at one input. -/
def cpuCallsWrong : ChangeSpec := { name := "cpuCalls", fn := fun _ => fun
  | [d1, d2, d3] => { results := [.lit (.bool false)], args := [d1, d2, d3] }
  | _ => none }
def CpuCallsWrongFalsely : Prop := cpuCallsRow.holds Try.pinned (OpenSpec.ofChange cpuCallsWrong)

/-- 'splicelaw06.CpuKeeps': WHATEVER THE INPUT: true; the input reads as it did. -/
def cpuKeepsSpec : ChangeSpec := { name := "cpuKeeps", fn := fun _ => fun
  | [d1, d2] => { results := [.lit (.bool true)], args := [d1, d2] }
  | _ => none }
def cpuKeepsRow : OpenClaim := { program := "ytgaggfekgkedpaa", sum := "fd1394999afbcbd92bb0bab7ff90d40dac146eec343448c61bd65f26e65aa19d", func := "splice/splicelaw06.CpuKeeps", spec := "cpuKeeps", apart := false }
def CpuKeepsSaid : Prop := cpuKeepsRow.holds Try.pinned (OpenSpec.ofChange cpuKeepsSpec)

/-- ITS FALSE NEIGHBOUR: 'it returns false'. Refute it at one input. -/
def cpuKeepsWrong : ChangeSpec := { name := "cpuKeeps", fn := fun _ => fun
  | [d1, d2] => { results := [.lit (.bool false)], args := [d1, d2] }
  | _ => none }
def CpuKeepsWrongFalsely : Prop := cpuKeepsRow.holds Try.pinned (OpenSpec.ofChange cpuKeepsWrong)

/- THE SECOND FORM. 'bulk': how many values and letters a reading holds, each counted each time it is reached (what is shared counts as often as it is met; a slice's spare places count too). A statement '..UptoSaid' is the law's where the arguments, and the package variables that the reading takes, are together of bulk at most 1048576: NARROWER than '..Said'. Prove '..Said' where nothing that the law and all that it calls make is longer than what came in: it says more and counts as full. Else prove '..UptoSaid'. A law counts once. -/
mutual
def uptoBulk {H : Type} : DataW H → Nat
  | .lit (.string bytes) => bytes.length + 1
  | .lit _ => 1
  | .nil => 1
  | .ptr d => uptoBulk d + 1
  | .slice elems spare => uptoBulkAll elems + uptoBulkAll spare + 1
  | .agg parts => uptoBulkAll parts + 1
  | .iface _ d => uptoBulk d + 1
  | .map entries => uptoBulkEntries entries + 1
  | .held _ => 1
def uptoBulkAll {H : Type} : List (DataW H) → Nat
  | [] => 0
  | d :: r => uptoBulk d + uptoBulkAll r
def uptoBulkEntries {H : Type} : List (Lit × DataW H) → Nat
  | [] => 0
  | x :: r => uptoBulkEntry x + uptoBulkEntries r
def uptoBulkEntry {H : Type} : Lit × DataW H → Nat
  | (.string bytes, d) => bytes.length + uptoBulk d + 1
  | (_, d) => uptoBulk d + 1
 end
def uptoSmall : (H : Type) → List (DataW H) → Bool := fun _ ds => decide (uptoBulkAll ds ≤ 1048576)
def OpenSpec.upto (s : _root_.Go.ChangeSpec) : _root_.Go.OpenSpec := { _root_.Go.OpenSpec.ofChange s with cond := some uptoSmall }

/-- 'splicelaw06.CpuNews', WHERE WHAT IT READS IS OF BULK AT MOST 1048576: true; the input reads as it did. -/
def cpuNewsUptoRow : OpenClaim := { program := "ytgaggfekgkedpaa", sum := "fd1394999afbcbd92bb0bab7ff90d40dac146eec343448c61bd65f26e65aa19d", func := "splice/splicelaw06.CpuNews", spec := "cpuNews", apart := false, narrowed := true }
def CpuNewsUptoSaid : Prop := cpuNewsUptoRow.holds Try.pinned (OpenSpec.upto cpuNewsSpec)

/-- 'splicelaw06.CpuAlone', WHERE WHAT IT READS IS OF BULK AT MOST 1048576: true; the input reads as it did. -/
def cpuAloneUptoRow : OpenClaim := { program := "ytgaggfekgkedpaa", sum := "fd1394999afbcbd92bb0bab7ff90d40dac146eec343448c61bd65f26e65aa19d", func := "splice/splicelaw06.CpuAlone", spec := "cpuAlone", apart := false, narrowed := true }
def CpuAloneUptoSaid : Prop := cpuAloneUptoRow.holds Try.pinned (OpenSpec.upto cpuAloneSpec)

/-- 'splicelaw06.CpuCalls', WHERE WHAT IT READS IS OF BULK AT MOST 1048576: true; the input reads as it did. -/
def cpuCallsUptoRow : OpenClaim := { program := "ytgaggfekgkedpaa", sum := "fd1394999afbcbd92bb0bab7ff90d40dac146eec343448c61bd65f26e65aa19d", func := "splice/splicelaw06.CpuCalls", spec := "cpuCalls", apart := false, narrowed := true }
def CpuCallsUptoSaid : Prop := cpuCallsUptoRow.holds Try.pinned (OpenSpec.upto cpuCallsSpec)

/-- 'splicelaw06.CpuKeeps', WHERE WHAT IT READS IS OF BULK AT MOST 1048576: true; the input reads as it did. -/
def cpuKeepsUptoRow : OpenClaim := { program := "ytgaggfekgkedpaa", sum := "fd1394999afbcbd92bb0bab7ff90d40dac146eec343448c61bd65f26e65aa19d", func := "splice/splicelaw06.CpuKeeps", spec := "cpuKeeps", apart := false, narrowed := true }
def CpuKeepsUptoSaid : Prop := cpuKeepsUptoRow.holds Try.pinned (OpenSpec.upto cpuKeepsSpec)

end Rows
end Go.Proofs.Ytgaggfekgkedpaa
