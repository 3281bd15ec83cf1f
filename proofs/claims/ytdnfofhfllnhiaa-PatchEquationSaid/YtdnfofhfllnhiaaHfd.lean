/- code.forms: the table of all operations, as the model's call of it tells it. -/
import Derived.Test.YtdnfofhfllnhiaaQ0
namespace Go.Proofs.Ytdnfofhfllnhiaa.Q
open Go.RowKit Go.Proofs.YtdnfofhfllnhiaaW.PrintWords Go.Proofs.YtdnfofhfllnhiaaW.PrintLast Go.Proofs.YtdnfofhfllnhiaaW.PrintMore
set_option linter.unusedVariables false
set_option linter.unusedSimpArgs false

def form_a (i : Int) : Bool := decide (i ≤ 18) || decide (i = 22) || decide (i = 23)
def form_b (i : Int) : Bool := (decide (1 ≤ i) && decide (i ≤ 8)) || (decide (10 ≤ i) && decide (i ≤ 18))
def form_c (i : Int) : Bool := decide (1 ≤ i) && decide (i ≤ 7)
def form_w (i : Int) : Int := if i < 8 then 0 else if i ≤ 14 then 16 else if i ≤ 18 then 8 else if i ≤ 20 then 24 else 0
def form_p (i : Int) : Bool := decide (i = 9) || decide (i = 10)
def formCells : Array Value := #[.bool true, .bool false, .bool false, .int .i64 0, .bool false, .bool true, .bool true, .bool true, .int .i64 0, .bool false, .bool true, .bool true, .bool true, .int .i64 0, .bool false, .bool true, .bool true, .bool true, .int .i64 0, .bool false, .bool true, .bool true, .bool true, .int .i64 0, .bool false, .bool true, .bool true, .bool true, .int .i64 0, .bool false, .bool true, .bool true, .bool true, .int .i64 0, .bool false, .bool true, .bool true, .bool true, .int .i64 0, .bool false, .bool true, .bool true, .bool false, .int .i64 16, .bool false, .bool true, .bool false, .bool false, .int .i64 16, .bool true, .bool true, .bool true, .bool false, .int .i64 16, .bool true, .bool true, .bool true, .bool false, .int .i64 16, .bool false, .bool true, .bool true, .bool false, .int .i64 16, .bool false, .bool true, .bool true, .bool false, .int .i64 16, .bool false, .bool true, .bool true, .bool false, .int .i64 16, .bool false, .bool true, .bool true, .bool false, .int .i64 8, .bool false, .bool true, .bool true, .bool false, .int .i64 8, .bool false, .bool true, .bool true, .bool false, .int .i64 8, .bool false, .bool true, .bool true, .bool false, .int .i64 8, .bool false, .bool false, .bool false, .bool false, .int .i64 24, .bool false, .bool false, .bool false, .bool false, .int .i64 24, .bool false, .bool false, .bool false, .bool false, .int .i64 0, .bool false, .bool true, .bool false, .bool false, .int .i64 0, .bool false, .bool true, .bool false, .bool false, .int .i64 0, .bool false, .bool false, .bool false, .bool false, .int .i64 0, .bool false, .bool false, .bool false, .bool false, .int .i64 0, .bool false]
/-- The array's value (the number says nothing). -/
def arV86 (_ : Int) : Value := .agg formCells
def code_forms.f : Option Int := some 0
end Go.Proofs.Ytdnfofhfllnhiaa.Q
