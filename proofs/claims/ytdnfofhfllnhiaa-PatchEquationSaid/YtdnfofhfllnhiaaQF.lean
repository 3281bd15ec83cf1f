-- Written by drv.py, a program of this session, over the kit's print, out of the translation. Not trusted: Lean checks it.
namespace Go.Proofs.Ytdnfofhfllnhiaa.Q
def I64 (x : Int) : Prop := -9223372036854775808 ≤ x ∧ x ≤ 9223372036854775807
def I32 (x : Int) : Prop := -2147483648 ≤ x ∧ x ≤ 2147483647
def I8 (x : Int) : Prop := -128 ≤ x ∧ x ≤ 127
def I16 (x : Int) : Prop := -32768 ≤ x ∧ x ≤ 32767
def U8 (x : Int) : Prop := 0 ≤ x ∧ x ≤ 255
def U16 (x : Int) : Prop := 0 ≤ x ∧ x ≤ 65535
def U32 (x : Int) : Prop := 0 ≤ x ∧ x ≤ 4294967295
def U64 (x : Int) : Prop := 0 ≤ x ∧ x ≤ 18446744073709551615
end Go.Proofs.Ytdnfofhfllnhiaa.Q
