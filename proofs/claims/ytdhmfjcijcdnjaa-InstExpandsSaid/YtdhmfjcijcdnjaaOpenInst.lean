/- An instruction, opened as an argument. -/
import Derived.Test.YtdhmfjcijcdnjaaDec
import Derived.Test.YtdhmfjcijcdnjaaRows
import Derived.WalkKit
import Derived.ProofKit
import Derived.OpenShut
import Derived.ShutString
import Derived.ChangeOld
import Derived.SizedLaws
import Derived.Carry
import Derived.ChangeArms
namespace Go.Proofs.Ytdhmfjcijcdnjaa
open Go Go.RowKit Go.ChangeShapes Go.WideShapes Go.ChangeAt
set_option linter.unusedVariables false
set_option linter.unusedSimpArgs false

section
variable {H : Type} {enc : TypeId × Value → H} {W : World} {base : Nat} {sp : Nat → Bool} {held : Bool}
theorem co_int : Try.prog.cellsOf 3 = 1 := by kernel_rfl
theorem co_bool : Try.prog.cellsOf 4 = 1 := by kernel_rfl
theorem co_inst : Try.prog.cellsOf 24 = 8 := by kernel_rfl
theorem bd_i64 {v : Int} (h : (Lit.int .i64 v).wf = true) : -9223372036854775808 ≤ v ∧ v < 9223372036854775808 := by have := bounds_i64 h; exact ⟨by omega, by omega⟩
/-- The fields are whole numbers of 64 bits. -/
structure I64s (i : Enc.Ins) : Prop where
  k : -9223372036854775808 ≤ i.k ∧ i.k < 9223372036854775808
  fn : -9223372036854775808 ≤ i.fn ∧ i.fn < 9223372036854775808
  rd : -9223372036854775808 ≤ i.rd ∧ i.rd < 9223372036854775808
  rs1 : -9223372036854775808 ≤ i.rs1 ∧ i.rs1 < 9223372036854775808
  rs2 : -9223372036854775808 ≤ i.rs2 ∧ i.rs2 < 9223372036854775808
  imm : -9223372036854775808 ≤ i.imm ∧ i.imm < 9223372036854775808
  sz : -9223372036854775808 ≤ i.sz ∧ i.sz < 9223372036854775808
theorem open_inst {r : Reach} {b0 : Nat} {v : Value} {d : DataW H} {ps : List MemPlace} (hval : Value.okWide Try.prog W r b0 24 v) (h : DataW.Trod enc Try.prog W base sp held 24 v d ps) :
    ∃ i : Enc.Ins, v = .agg i.cells ∧ I64s i := by
  simp only [Value.okWide, Try.underlying24] at hval
  obtain ⟨cs, rfl, hsz, _⟩ := hval
  rw [co_inst] at hsz
  obtain ⟨l⟩ := cs
  obtain ⟨fuel, hf⟩ := h
  match l, hsz with
  | [a1, a2, a3, a4, a5, a6, a7, a8], _ =>
    obtain ⟨xs, n, _, _, _, hxl, hfl⟩ := DataW.trod_struct Try.underlying24 hf
    match xs, hxl with
    | [y1, y2, y3, y4, y5, y6, y7, y8], _ =>
      have g1 : DataW.trod enc Try.prog W base sp held n 3 [a1] = some y1 := by simpa [co_int, Value.cells] using hfl 0 _ rfl
      have g2 : DataW.trod enc Try.prog W base sp held n 3 [a2] = some y2 := by simpa [co_int, Value.cells] using hfl 1 _ rfl
      have g3 : DataW.trod enc Try.prog W base sp held n 3 [a3] = some y3 := by simpa [co_int, Value.cells] using hfl 2 _ rfl
      have g4 : DataW.trod enc Try.prog W base sp held n 3 [a4] = some y4 := by simpa [co_int, Value.cells] using hfl 3 _ rfl
      have g5 : DataW.trod enc Try.prog W base sp held n 3 [a5] = some y5 := by simpa [co_int, Value.cells] using hfl 4 _ rfl
      have g6 : DataW.trod enc Try.prog W base sp held n 3 [a6] = some y6 := by simpa [co_int, Value.cells] using hfl 5 _ rfl
      have g7 : DataW.trod enc Try.prog W base sp held n 3 [a7] = some y7 := by simpa [co_int, Value.cells] using hfl 6 _ rfl
      have g8 : DataW.trod enc Try.prog W base sp held n 4 [a8] = some y8 := by simpa [co_bool, co_int, Value.cells] using hfl 7 _ rfl
      obtain ⟨n1, e1, _, w1⟩ := DataW.trod_int Try.underlying3 g1
      obtain ⟨n2, e2, _, w2⟩ := DataW.trod_int Try.underlying3 g2
      obtain ⟨n3, e3, _, w3⟩ := DataW.trod_int Try.underlying3 g3
      obtain ⟨n4, e4, _, w4⟩ := DataW.trod_int Try.underlying3 g4
      obtain ⟨n5, e5, _, w5⟩ := DataW.trod_int Try.underlying3 g5
      obtain ⟨n6, e6, _, w6⟩ := DataW.trod_int Try.underlying3 g6
      obtain ⟨n7, e7, _, w7⟩ := DataW.trod_int Try.underlying3 g7
      obtain ⟨n8, e8, _⟩ := DataW.trod_bool Try.underlying4 g8
      simp at e1 e2 e3 e4 e5 e6 e7 e8
      subst e1 e2 e3 e4 e5 e6 e7 e8
      exact ⟨⟨n1, n2, n3, n4, n5, n6, n7, n8⟩, rfl, bd_i64 w1, bd_i64 w2, bd_i64 w3, bd_i64 w4, bd_i64 w5, bd_i64 w6, bd_i64 w7⟩
end
end Go.Proofs.Ytdhmfjcijcdnjaa
