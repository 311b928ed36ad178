/- A case, and a slice of cells, opened as arguments. -/
import Derived.Test.YtfoocpcpljlndaaAwake
import Derived.Deep.SlicePairs
import Derived.ChangeArms
namespace Go.Proofs.Ytfoocpcpljlndaa
open Go Go.RowKit Go.ChangeShapes Go.WideShapes Go.ChangeAt Go.Proofs.Ytfoocpcpljlndaa.Duo Go.Proofs.Ytfoocpcpljlndaa.Tab Go.Proofs.Ytfoocpcpljlndaa.Step
set_option linter.unusedVariables false
set_option linter.unusedSimpArgs false

def iOf : Value → Int | .int _ q => q | _ => 0
section
variable {H : Type} {enc : TypeId × Value → H} {W : World} {base : Nat} {sp : Nat → Bool} {held : Bool}
theorem co_cell : Try.prog.cellsOf 41 = 2 := by kernel_rfl
theorem co_int : Try.prog.cellsOf 3 = 1 := by kernel_rfl
theorem co_u64 : Try.prog.cellsOf 23 = 1 := by kernel_rfl
theorem co_bool : Try.prog.cellsOf 4 = 1 := by kernel_rfl
theorem co_cells : Try.prog.cellsOf 22 = 1 := by kernel_rfl
theorem co_env : Try.prog.cellsOf 25 = 5 := by kernel_rfl
theorem co_case : Try.prog.cellsOf 27 = 6 := by kernel_rfl
theorem bd_u64 {v : Int} (h : (Lit.int .u64 v).wf = true) : U64 v := by have := bounds_u64 h; exact ⟨by omega, by omega⟩
theorem bd_i64 {v : Int} (h : (Lit.int .i64 v).wf = true) : -9223372036854775808 ≤ v ∧ v < 9223372036854775808 := by have := bounds_i64 h; exact ⟨by omega, by omega⟩
theorem open_cells {fuel : Nat} {cs : List Value} {x : DataW H × List MemPlace} (h : DataW.trod enc Try.prog W base sp held fuel 22 cs = some x) :
    ∃ A len cap f, cs = [.slice A len cap] ∧ RdC W A len f (· < W.heap.size) ∧ len ≤ 9223372036854775807 := by
  rcases Go.Deep.open_slice_pairs Try.underlying22 Try.underlying41 co_cell rfl rfl co_int co_u64 h with ⟨rfl, _⟩ | ⟨a, len, cap, m, n, V0, V1, D0, D1, P0, P1, rfl, hb, hl, hm, hmm, _, hx⟩
  · exact ⟨none, 0, 0, fun _ => (0, 0), rfl, fun i hi => by omega, by omega⟩
  · have hlm : len ≤ m := by rw [hmm]; split <;> omega
    refine ⟨some a, len, cap, fun i => (iOf (V0 i), iOf (V1 i)), rfl, fun i hi => ?_, by unfold maxLen at hm; omega⟩
    obtain ⟨h0, h1, t0, t1⟩ := hx i (by omega)
    obtain ⟨n0, e0, _, w0⟩ := DataW.trod_int Try.underlying3 t0
    obtain ⟨n1, e1, _, w1⟩ := DataW.trod_int Try.underlying23 t1
    simp only [List.cons.injEq, and_true] at e0 e1
    rw [e0] at h0
    rw [e1] at h1
    have i0 : iOf (V0 i) = n0 := by rw [e0]; rfl
    have i1 : iOf (V1 i) = n1 := by rw [e1]; rfl
    refine ⟨a, rfl, ?_, ?_, ?_, ?_, ?_⟩
    all_goals dsimp only
    · have := World.block_lt_of_cell? W _ h0
      rwa [Duo.block_add] at this
    · rw [i0]; exact h0
    · rw [i1]; exact h1
    · rw [i0]; exact bd_i64 w0
    · rw [i1]; exact bd_u64 w1
theorem open_env {fuel : Nat} {a1 a2 a3 a4 a5 : Value} {x : DataW H × List MemPlace} (h : DataW.trod enc Try.prog W base sp held fuel 25 [a1, a2, a3, a4, a5] = some x) :
    ∃ satp root user sum mxr, a1 = .int .u64 satp ∧ a2 = .int .u64 root ∧ a3 = .bool user ∧ a4 = .bool sum ∧ a5 = .bool mxr ∧ U64 satp ∧ U64 root := by
  obtain ⟨xs, n, _, _, _, hxl, hf⟩ := DataW.trod_struct Try.underlying25 h
  match xs, hxl with
  | [y1, y2, y3, y4, y5], _ =>
    have g1 : DataW.trod enc Try.prog W base sp held n 23 [a1] = some y1 := by simpa [co_u64] using hf 0 _ rfl
    have g2 : DataW.trod enc Try.prog W base sp held n 23 [a2] = some y2 := by simpa [co_u64] using hf 1 _ rfl
    have g3 : DataW.trod enc Try.prog W base sp held n 4 [a3] = some y3 := by simpa [co_bool] using hf 2 _ rfl
    have g4 : DataW.trod enc Try.prog W base sp held n 4 [a4] = some y4 := by simpa [co_bool] using hf 3 _ rfl
    have g5 : DataW.trod enc Try.prog W base sp held n 4 [a5] = some y5 := by simpa [co_bool] using hf 4 _ rfl
    obtain ⟨n1, e1, _, w1⟩ := DataW.trod_int Try.underlying23 g1
    obtain ⟨n2, e2, _, w2⟩ := DataW.trod_int Try.underlying23 g2
    obtain ⟨n3, e3, _⟩ := DataW.trod_bool Try.underlying4 g3
    obtain ⟨n4, e4, _⟩ := DataW.trod_bool Try.underlying4 g4
    obtain ⟨n5, e5, _⟩ := DataW.trod_bool Try.underlying4 g5
    simp at e1 e2 e3 e4 e5
    exact ⟨n1, n2, n3, n4, n5, e1, e2, e3, e4, e5, bd_u64 w1, bd_u64 w2⟩
theorem open_case {r : Reach} {b0 : Nat} {v : Value} {d : DataW H} {ps : List MemPlace} (hval : Value.okWide Try.prog W r b0 27 v) (h : DataW.Trod enc Try.prog W base sp held 27 v d ps) :
    ∃ A len cap f satp root user sum mxr, v = .agg (caseV A len cap satp root user sum mxr) ∧ RdC W A len f (· < W.heap.size) ∧ len ≤ 9223372036854775807 ∧ U64 satp ∧ U64 root := by
  simp only [Value.okWide, Try.underlying27] at hval
  obtain ⟨cs, rfl, hsz, _⟩ := hval
  rw [co_case] at hsz
  obtain ⟨l⟩ := cs
  obtain ⟨fuel, hf⟩ := h
  match l, hsz with
  | [a0, a1, a2, a3, a4, a5], _ =>
    obtain ⟨xs, n, _, _, _, hxl, hfl⟩ := DataW.trod_struct Try.underlying27 hf
    match xs, hxl with
    | [y0, y1], _ =>
      have g0 : DataW.trod enc Try.prog W base sp held n 22 [a0] = some y0 := by simpa [co_cells, Value.cells] using hfl 0 _ rfl
      have g1 : DataW.trod enc Try.prog W base sp held n 25 [a1, a2, a3, a4, a5] = some y1 := by simpa [co_env, Value.cells] using hfl 1 _ rfl
      obtain ⟨A, len, cap, f, e0, hr, hl⟩ := open_cells g0
      obtain ⟨satp, root, user, sum, mxr, rfl, rfl, rfl, rfl, rfl, h1, h2⟩ := open_env g1
      simp only [List.cons.injEq, and_true] at e0
      subst e0
      exact ⟨A, len, cap, f, satp, root, user, sum, mxr, rfl, hr, hl, h1, h2⟩
end
end Go.Proofs.Ytfoocpcpljlndaa
