import Derived.Test.YtmicafpfkpnalaaDoorInsn1
namespace Go.Proofs.YtmicafpfkpnalaaDoor
open Go Go.RowKit
structure Ins where
  code : Int
  jt : Int
  jf : Int
  k : Int
def Ins.cells (i : Ins) : List Value := [.int .u16 i.code, .int .u8 i.jt, .int .u8 i.jf, .int .u32 i.k]
def Ins.v (i : Ins) : Value := .agg #[.int .u16 i.code, .int .u8 i.jt, .int .u8 i.jf, .int .u32 i.k]
structure Ins.ok (i : Ins) : Prop where
  c : 0 ≤ i.code ∧ i.code < 65536
  t : 0 ≤ i.jt ∧ i.jt < 256
  f : 0 ≤ i.jf ∧ i.jf < 256
  k : 0 ≤ i.k ∧ i.k < 4294967296
def one (i : Ins) (at_ many : Int) : Int :=
  let left := many - at_ - 1
  if !known i.code then 208
  else if i.code = 5 ∧ i.k ≥ left then 207
  else if i.code % 8 = 5 ∧ i.code ≠ 5 ∧ max i.jt i.jf ≥ left then 207
  else if i.code = 32 ∧ (i.k % 4 ≠ 0 ∨ i.k > 60) then 204
  else if (i.code = 96 || i.code = 97 || i.code = 2 || i.code = 3) ∧ i.k ≥ 16 then 204
  else if i.code = 52 ∧ i.k = 0 then 204
  else if (i.code = 100 ∨ i.code = 116) ∧ i.k ≥ 32 then 204
  else 0
end Go.Proofs.YtmicafpfkpnalaaDoor
