/-
  No cell of these rows narrows 'for every input' (looked for: loops, veiled, ifaces, maps, wideKeys, modest, calm, conditions, laid).
  DERIVED. THE GIVEN ROWS OF THIS SEAT. 6 by the template 'for every input the law returns true; each argument reads behind the call as it read before'; 0 by the template 'total and deterministic' (their statements: YtifineoohopchaaTotals.lean).
  GIVEN WITH THE SEED: the statements are not yours to turn. If you find one false, say at which input.
  Laid BY PROGRAM, IN A SANDBOX (cutbox-rows.mjs): the forced cells as the released guide's own fill.sh prints them over the translation 084b5bf9a8a54e21… (all of the seat's roots in one cut). By AI agents, Wed Nov 11 2026. No macro, syntax, notation, axiom, sorry.
-/
import Derived.Test.YtifineoohopchaaChecked
import GoSem.Claim
import GoSem.ClaimJoined
import GoSem.ClaimMapViews
import Derived.JoinedTies
import Derived.KernelRfl
namespace Go.Proofs.Ytifineoohopchaa
/- THE CELL 'sum', in the pinned program and in every row, IS THE sha256 OF THE DUMP (.gsa) THAT YtifineoohopchaaProg.lean LOADS. Nothing in Lean hashes anything: it is a label: what it is worth is what the hold of that sum in a sandbox is worth. -/
noncomputable def Try.pinned : Pinned := { name := "ytifineoohopchaa", sum := "084b5bf9a8a54e21cd4cfe93a7f8bc2820562129552d595bbe1cef16b72e0f4f", checked := Try.checked }
namespace Rows
def none {H : Type} : Left H := { results := [], args := [] }

/-- 'splicelaw02.CodePuts': WHATEVER THE INPUT: true; the input reads as it did. -/
def codePutsSpec : ChangeSpec := { name := "codePuts", fn := fun _ => fun
  | [d] => { results := [.lit (.bool true)], args := [d] }
  | _ => none }
def codePutsRow : OpenClaim := { program := "ytifineoohopchaa", sum := "084b5bf9a8a54e21cd4cfe93a7f8bc2820562129552d595bbe1cef16b72e0f4f", func := "splice/splicelaw02.CodePuts", spec := "codePuts", apart := false }
def CodePutsSaid : Prop := codePutsRow.holds Try.pinned (OpenSpec.ofChange codePutsSpec)

/-- ITS FALSE NEIGHBOUR: 'it returns false'. Refute it at one input. -/
def codePutsWrong : ChangeSpec := { name := "codePuts", fn := fun _ => fun
  | [d] => { results := [.lit (.bool false)], args := [d] }
  | _ => none }
def CodePutsWrongFalsely : Prop := codePutsRow.holds Try.pinned (OpenSpec.ofChange codePutsWrong)

/-- 'splicelaw02.CodeGets': WHATEVER THE INPUT: true; the input reads as it did. -/
def codeGetsSpec : ChangeSpec := { name := "codeGets", fn := fun _ => fun
  | [d] => { results := [.lit (.bool true)], args := [d] }
  | _ => none }
def codeGetsRow : OpenClaim := { program := "ytifineoohopchaa", sum := "084b5bf9a8a54e21cd4cfe93a7f8bc2820562129552d595bbe1cef16b72e0f4f", func := "splice/splicelaw02.CodeGets", spec := "codeGets", apart := false }
def CodeGetsSaid : Prop := codeGetsRow.holds Try.pinned (OpenSpec.ofChange codeGetsSpec)

/-- ITS FALSE NEIGHBOUR: 'it returns false'. Refute it at one input. -/
def codeGetsWrong : ChangeSpec := { name := "codeGets", fn := fun _ => fun
  | [d] => { results := [.lit (.bool false)], args := [d] }
  | _ => none }
def CodeGetsWrongFalsely : Prop := codeGetsRow.holds Try.pinned (OpenSpec.ofChange codeGetsWrong)

/-- 'splicelaw02.CodeBack': WHATEVER THE INPUT: true; the input reads as it did. -/
def codeBackSpec : ChangeSpec := { name := "codeBack", fn := fun _ => fun
  | [d1, d2] => { results := [.lit (.bool true)], args := [d1, d2] }
  | _ => none }
def codeBackRow : OpenClaim := { program := "ytifineoohopchaa", sum := "084b5bf9a8a54e21cd4cfe93a7f8bc2820562129552d595bbe1cef16b72e0f4f", func := "splice/splicelaw02.CodeBack", spec := "codeBack", apart := false }
def CodeBackSaid : Prop := codeBackRow.holds Try.pinned (OpenSpec.ofChange codeBackSpec)

/-- ITS FALSE NEIGHBOUR: 'it returns false'. Refute it at one input. -/
def codeBackWrong : ChangeSpec := { name := "codeBack", fn := fun _ => fun
  | [d1, d2] => { results := [.lit (.bool false)], args := [d1, d2] }
  | _ => none }
def CodeBackWrongFalsely : Prop := codeBackRow.holds Try.pinned (OpenSpec.ofChange codeBackWrong)

/-- 'splicelaw02.CodeApart': WHATEVER THE INPUT: true; the input reads as it did. -/
def codeApartSpec : ChangeSpec := { name := "codeApart", fn := fun _ => fun
  | [d1, d2] => { results := [.lit (.bool true)], args := [d1, d2] }
  | _ => none }
def codeApartRow : OpenClaim := { program := "ytifineoohopchaa", sum := "084b5bf9a8a54e21cd4cfe93a7f8bc2820562129552d595bbe1cef16b72e0f4f", func := "splice/splicelaw02.CodeApart", spec := "codeApart", apart := false }
def CodeApartSaid : Prop := codeApartRow.holds Try.pinned (OpenSpec.ofChange codeApartSpec)

/-- ITS FALSE NEIGHBOUR: 'it returns false'. Refute it at one input. -/
def codeApartWrong : ChangeSpec := { name := "codeApart", fn := fun _ => fun
  | [d1, d2] => { results := [.lit (.bool false)], args := [d1, d2] }
  | _ => none }
def CodeApartWrongFalsely : Prop := codeApartRow.holds Try.pinned (OpenSpec.ofChange codeApartWrong)

/-- 'splicelaw02.CodeAlls': WHATEVER THE INPUT: true; the input reads as it did. -/
def codeAllsSpec : ChangeSpec := { name := "codeAlls", fn := fun _ => fun
  | [d] => { results := [.lit (.bool true)], args := [d] }
  | _ => none }
def codeAllsRow : OpenClaim := { program := "ytifineoohopchaa", sum := "084b5bf9a8a54e21cd4cfe93a7f8bc2820562129552d595bbe1cef16b72e0f4f", func := "splice/splicelaw02.CodeAlls", spec := "codeAlls", apart := false }
def CodeAllsSaid : Prop := codeAllsRow.holds Try.pinned (OpenSpec.ofChange codeAllsSpec)

/-- ITS FALSE NEIGHBOUR: 'it returns false'. Refute it at one input. -/
def codeAllsWrong : ChangeSpec := { name := "codeAlls", fn := fun _ => fun
  | [d] => { results := [.lit (.bool false)], args := [d] }
  | _ => none }
def CodeAllsWrongFalsely : Prop := codeAllsRow.holds Try.pinned (OpenSpec.ofChange codeAllsWrong)

/-- 'splicelaw02.CodeKeeps': WHATEVER THE INPUT: true; the input reads as it did. -/
def codeKeepsSpec : ChangeSpec := { name := "codeKeeps", fn := fun _ => fun
  | [d] => { results := [.lit (.bool true)], args := [d] }
  | _ => none }
def codeKeepsRow : OpenClaim := { program := "ytifineoohopchaa", sum := "084b5bf9a8a54e21cd4cfe93a7f8bc2820562129552d595bbe1cef16b72e0f4f", func := "splice/splicelaw02.CodeKeeps", spec := "codeKeeps", apart := false }
def CodeKeepsSaid : Prop := codeKeepsRow.holds Try.pinned (OpenSpec.ofChange codeKeepsSpec)

/-- ITS FALSE NEIGHBOUR: 'it returns false'. Refute it at one input. -/
def codeKeepsWrong : ChangeSpec := { name := "codeKeeps", fn := fun _ => fun
  | [d] => { results := [.lit (.bool false)], args := [d] }
  | _ => none }
def CodeKeepsWrongFalsely : Prop := codeKeepsRow.holds Try.pinned (OpenSpec.ofChange codeKeepsWrong)

/- THE SECOND FORM. 'bulk': how many values and letters a reading holds, each counted each time it is reached (what is shared counts as often as it is met; a slice's spare places count too). A statement '..UptoSaid' is the law's where the arguments, and the package variables that the reading takes, are together of bulk at most 1048576: NARROWER than '..Said'. Prove '..Said' where nothing that the law and all that it calls make is longer than what came in: it says more and counts as full. Else prove '..UptoSaid'. A law counts once. -/
mutual
def uptoBulk {H : Type} : DataW H → Nat
  | .lit (.string bytes) => bytes.length + 1
  | .lit _ => 1
  | .nil => 1
  | .ptr d => uptoBulk d + 1
  | .slice elems spare => uptoBulkAll elems + uptoBulkAll spare + 1
  | .agg parts => uptoBulkAll parts + 1
  | .iface _ d => uptoBulk d + 1
  | .map entries => uptoBulkEntries entries + 1
  | .held _ => 1
def uptoBulkAll {H : Type} : List (DataW H) → Nat
  | [] => 0
  | d :: r => uptoBulk d + uptoBulkAll r
def uptoBulkEntries {H : Type} : List (Lit × DataW H) → Nat
  | [] => 0
  | x :: r => uptoBulkEntry x + uptoBulkEntries r
def uptoBulkEntry {H : Type} : Lit × DataW H → Nat
  | (.string bytes, d) => bytes.length + uptoBulk d + 1
  | (_, d) => uptoBulk d + 1
 end
def uptoSmall : (H : Type) → List (DataW H) → Bool := fun _ ds => decide (uptoBulkAll ds ≤ 1048576)
def OpenSpec.upto (s : _root_.Go.ChangeSpec) : _root_.Go.OpenSpec := { _root_.Go.OpenSpec.ofChange s with cond := some uptoSmall }

/-- 'splicelaw02.CodePuts', WHERE WHAT IT READS IS OF BULK AT MOST 1048576: true; the input reads as it did. -/
def codePutsUptoRow : OpenClaim := { program := "ytifineoohopchaa", sum := "084b5bf9a8a54e21cd4cfe93a7f8bc2820562129552d595bbe1cef16b72e0f4f", func := "splice/splicelaw02.CodePuts", spec := "codePuts", apart := false, narrowed := true }
def CodePutsUptoSaid : Prop := codePutsUptoRow.holds Try.pinned (OpenSpec.upto codePutsSpec)

/-- 'splicelaw02.CodeGets', WHERE WHAT IT READS IS OF BULK AT MOST 1048576: true; the input reads as it did. -/
def codeGetsUptoRow : OpenClaim := { program := "ytifineoohopchaa", sum := "084b5bf9a8a54e21cd4cfe93a7f8bc2820562129552d595bbe1cef16b72e0f4f", func := "splice/splicelaw02.CodeGets", spec := "codeGets", apart := false, narrowed := true }
def CodeGetsUptoSaid : Prop := codeGetsUptoRow.holds Try.pinned (OpenSpec.upto codeGetsSpec)

/-- 'splicelaw02.CodeBack', WHERE WHAT IT READS IS OF BULK AT MOST 1048576: true; the input reads as it did. -/
def codeBackUptoRow : OpenClaim := { program := "ytifineoohopchaa", sum := "084b5bf9a8a54e21cd4cfe93a7f8bc2820562129552d595bbe1cef16b72e0f4f", func := "splice/splicelaw02.CodeBack", spec := "codeBack", apart := false, narrowed := true }
def CodeBackUptoSaid : Prop := codeBackUptoRow.holds Try.pinned (OpenSpec.upto codeBackSpec)

/-- 'splicelaw02.CodeApart', WHERE WHAT IT READS IS OF BULK AT MOST 1048576: true; the input reads as it did. -/
def codeApartUptoRow : OpenClaim := { program := "ytifineoohopchaa", sum := "084b5bf9a8a54e21cd4cfe93a7f8bc2820562129552d595bbe1cef16b72e0f4f", func := "splice/splicelaw02.CodeApart", spec := "codeApart", apart := false, narrowed := true }
def CodeApartUptoSaid : Prop := codeApartUptoRow.holds Try.pinned (OpenSpec.upto codeApartSpec)

/-- 'splicelaw02.CodeAlls', WHERE WHAT IT READS IS OF BULK AT MOST 1048576: true; the input reads as it did. -/
def codeAllsUptoRow : OpenClaim := { program := "ytifineoohopchaa", sum := "084b5bf9a8a54e21cd4cfe93a7f8bc2820562129552d595bbe1cef16b72e0f4f", func := "splice/splicelaw02.CodeAlls", spec := "codeAlls", apart := false, narrowed := true }
def CodeAllsUptoSaid : Prop := codeAllsUptoRow.holds Try.pinned (OpenSpec.upto codeAllsSpec)

/-- 'splicelaw02.CodeKeeps', WHERE WHAT IT READS IS OF BULK AT MOST 1048576: true; the input reads as it did. -/
def codeKeepsUptoRow : OpenClaim := { program := "ytifineoohopchaa", sum := "084b5bf9a8a54e21cd4cfe93a7f8bc2820562129552d595bbe1cef16b72e0f4f", func := "splice/splicelaw02.CodeKeeps", spec := "codeKeeps", apart := false, narrowed := true }
def CodeKeepsUptoSaid : Prop := codeKeepsUptoRow.holds Try.pinned (OpenSpec.upto codeKeepsSpec)

end Rows
end Go.Proofs.Ytifineoohopchaa
