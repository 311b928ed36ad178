/- Parts of the walks and laws for the claim: Dec; no conditions beyond the theorems' own. -/
import Derived.Test.YtidiojhefjhojaaGreatQ5
import Derived.Test.YtidiojhefjhojaaGreatQ7
section
namespace Go.Proofs.YtidiojhefjhojaaGreat.Enc
open Go Go.RowKit
set_option linter.unusedVariables false
/-- An instruction's fields. -/
structure Ins where
  k : Int
  fn : Int
  rd : Int
  rs1 : Int
  rs2 : Int
  imm : Int
  sz : Int
  sg : Bool
def Ins.cells (i : Ins) : Array Value := #[.int .i64 i.k, .int .i64 i.fn, .int .i64 i.rd, .int .i64 i.rs1, .int .i64 i.rs2, .int .i64 i.imm, .int .i64 i.sz, .bool i.sg]
def Ins.zero : Ins := ⟨0, 0, 0, 0, 0, 0, 0, false⟩
/-- What Decode tells. -/
def told : Option Ins → Value
  | none => .tuple #[.agg Ins.zero.cells, .bool false]
  | some i => .tuple #[.agg i.cells, .bool true]
def brL : List Int := [1, 2, 0, 0, 3, 4, 5, 6]
def ldL : List Int := [1, 2, 4, 8, 1, 2, 4, 8]
def stL : List Int := [1, 2, 4, 8, 16, 32, 64, 128]
def csL : List Int := [0, 1, 2, 3, 0, 1, 2, 3]
def sysD (a : Int) : Option Ins :=
  if a = 115 then some ⟨11, 0, 0, 0, 0, 0, 0, false⟩
  else if a = 1048691 then some ⟨12, 0, 0, 0, 0, 0, 0, false⟩
  else if a = 270532723 then some ⟨18, 0, 0, 0, 0, 0, 0, false⟩
  else if a = 273678451 then some ⟨19, 0, 0, 0, 0, 0, 0, false⟩
  else if fd a 14 12 = 0 then (if fd a 31 25 = 9 ∧ fd a 11 7 = 0 then some ⟨20, 0, 0, fd a 19 15, fd a 24 20, 0, 0, false⟩ else none)
  else if pk csL (fd a 14 12) = 0 then none
  else some ⟨if fd a 14 12 < 4 then 13 else 14, pk csL (fd a 14 12), fd a 11 7, fd a 19 15, 0, fd a 31 20, 0, false⟩
def atD (a : Int) : Option Ins :=
  if fd a 14 12 = 2 ∨ fd a 14 12 = 3 then
    (if (atF (fd a 31 27) (fd a 24 20)).2.2 then some ⟨(atF (fd a 31 27) (fd a 24 20)).1, (atF (fd a 31 27) (fd a 24 20)).2.1, fd a 11 7, fd a 19 15, fd a 24 20, 0, if fd a 14 12 = 2 then 4 else 8, false⟩ else none)
  else none
/-- What a word says as an instruction, by its lowest bits. -/
def decOp (op a : Int) : Option Ins :=
  if op = 55 then some ⟨1, 0, fd a 11 7, 0, 0, immU a, 0, false⟩
  else if op = 23 then some ⟨2, 0, fd a 11 7, 0, 0, immU a, 0, false⟩
  else if op = 111 then some ⟨3, 0, fd a 11 7, 0, 0, immJ a, 0, false⟩
  else if op = 103 then (if fd a 14 12 = 0 then some ⟨4, 0, fd a 11 7, fd a 19 15, 0, immI a, 0, false⟩ else none)
  else if op = 99 then (if pk brL (fd a 14 12) = 0 then none else some ⟨5, pk brL (fd a 14 12), 0, fd a 19 15, fd a 24 20, immB a, 0, false⟩)
  else if op = 3 then (if fd a 14 12 < 7 then some ⟨6, 0, fd a 11 7, fd a 19 15, 0, immI a, pk ldL (fd a 14 12), decide (fd a 14 12 < 4)⟩ else none)
  else if op = 35 then (if fd a 14 12 < 4 then some ⟨7, 0, 0, fd a 19 15, fd a 24 20, immS a, pk stL (fd a 14 12), false⟩ else none)
  else if op = 19 then (if (im13 (fd a 31 26) (fd a 14 12) (fd a 25 20) (immI a)).2.2 then some ⟨9, (im13 (fd a 31 26) (fd a 14 12) (fd a 25 20) (immI a)).1, fd a 11 7, fd a 19 15, 0, (im13 (fd a 31 26) (fd a 14 12) (fd a 25 20) (immI a)).2.1, 0, false⟩ else none)
  else if op = 27 then (if (im1b (fd a 31 25) (fd a 14 12) (fd a 24 20) (immI a)).2.2 then some ⟨9, (im1b (fd a 31 25) (fd a 14 12) (fd a 24 20) (immI a)).1, fd a 11 7, fd a 19 15, 0, (im1b (fd a 31 25) (fd a 14 12) (fd a 24 20) (immI a)).2.1, 0, false⟩ else none)
  else if op = 51 then (if regF true (fd a 31 25) (fd a 14 12) = 0 then none else some ⟨8, regF true (fd a 31 25) (fd a 14 12), fd a 11 7, fd a 19 15, fd a 24 20, 0, 0, false⟩)
  else if op = 59 then (if regF false (fd a 31 25) (fd a 14 12) = 0 then none else some ⟨8, regF false (fd a 31 25) (fd a 14 12), fd a 11 7, fd a 19 15, fd a 24 20, 0, 0, false⟩)
  else if op = 15 then (if fd a 14 12 < 2 then some ⟨10, 0, 0, 0, 0, 0, 0, false⟩ else none)
  else if op = 115 then sysD a
  else if op = 47 then atD a
  else none
def dec (a : Int) : Option Ins := decOp (fd a 6 0) a
/-- A result of the inner readers: what stands there counts where they say so. -/
def Says (d : Option Ins) (e : Ending) : Prop := ∃ j ok, e = .returned (.tuple #[.agg (Ins.cells j), .bool ok]) ∧ d = if ok then some j else none
end Go.Proofs.YtidiojhefjhojaaGreat.Enc
end
