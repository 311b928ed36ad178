/- How long a case's cells can be: by the weights of what is read. -/
import Derived.Test.YtfoocpcpljlndaaOpenCase
import Derived.SizedLaws
namespace Go.Proofs.Ytfoocpcpljlndaa
open Go Go.RowKit Go.ChangeShapes Go.WideShapes Go.ChangeAt Go.Proofs.Ytfoocpcpljlndaa.Duo Go.Proofs.Ytfoocpcpljlndaa.Tab Go.Proofs.Ytfoocpcpljlndaa.Step
set_option linter.unusedVariables false
set_option linter.unusedSimpArgs false
theorem by_cell : Try.prog.bytesOf 41 = 16 := by kernel_rfl
theorem case_len {H : Type} {enc : TypeId × Value → H} {W : World} {base : Nat} {sp : Nat → Bool} {held : Bool} {A : Option Addr} {len cap : Nat} {satp root : Int} {user sum mxr : Bool} {d : DataW H} {ps : List MemPlace}
    (h : DataW.Trod enc Try.prog W base sp held 27 (.agg (caseV A len cap satp root user sum mxr)) d ps) (hw : ∀ n ∈ d.weights Try.prog 27, n ≤ reachBytes) : len * 16 ≤ reachBytes := by
  obtain ⟨fuel, hf⟩ := h
  obtain ⟨xs, n, _, hx, _, hxl, hfl⟩ := DataW.trod_struct Try.underlying27 hf
  match xs, hxl with
  | [y0, y1], _ =>
    have g0 : DataW.trod enc Try.prog W base sp held n 22 [.slice A len cap] = some y0 := by simpa [co_cells, Value.cells, caseV] using hfl 0 _ rfl
    simp only [Prod.mk.injEq] at hx
    have hd : d = .agg [y0.1, y1.1] := hx.1
    rcases Go.Deep.open_slice_pairs Try.underlying22 Try.underlying41 co_cell rfl rfl co_int co_u64 g0 with ⟨e, _⟩ | ⟨a, len', cap', m, n', V0, V1, D0, D1, P0, P1, e, hb, hl, hm, hmm, hy, _⟩
    · simp at e
      omega
    · simp at e
      obtain ⟨_, rfl, _⟩ := e
      have h1 := hw ((((List.range len).map fun i => DataW.agg [D0 i, D1 i]).length + ((List.range (m - len)).map fun j => DataW.agg [D0 (len + j), D1 (len + j)]).length) * Try.prog.bytesOf 41) (by
        rw [hd, hy]
        simp [DataW.weights, DataW.weightsEach, Try.underlying27, Try.underlying22])
      simp only [List.length_map, List.length_range, by_cell] at h1
      omega
end Go.Proofs.Ytfoocpcpljlndaa
