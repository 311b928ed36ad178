/- How long a script can be: by the weights of what is read. -/
import Derived.Test.YtkdohejocmkljaaPlaysO
namespace Go.Proofs.Ytkdohejocmkljaa.Mem
open Go Go.RowKit Go.ChangeShapes Go.WideShapes Go.ChangeAt Go.Proofs.Ytkdohejocmkljaa.Step
set_option linter.unusedVariables false
set_option linter.unusedSimpArgs false
theorem by_op : Try.prog.bytesOf 58 = 64 := by kernel_rfl
theorem script_len {H : Type} {enc : TypeId × Value → H} {W : World} {base : Nat} {sp : Nat → Bool} {held : Bool} {B : Option Addr} {n c : Nat} {d : DataW H} {ps : List MemPlace} (h : DataW.Trod enc Try.prog W base sp held 50 (.slice B n c) d ps) (hw : ∀ k ∈ d.weights Try.prog 50, k ≤ reachBytes) : n * 64 ≤ 140737488355328 := by
  obtain ⟨fuel, hf⟩ := h
  rcases Go.Deep.open_slice Try.underlying50 hf with ⟨e, _⟩ | ⟨ad, l, cp, m, n', D, Pl, e, hb, hl, hm, hmm, hy, hx⟩
  · simp [Value.cells] at e
    omega
  · simp [Value.cells] at e
    obtain ⟨rfl, rfl, rfl⟩ := e
    have hd : d = _ := congrArg Prod.fst hy
    have h1 := hw ((((List.range n).map D).length + ((List.range (m - n)).map fun j => D (n + j)).length) * Try.prog.bytesOf 58) (by
      rw [hd]
      simp [DataW.weights, Try.underlying50])
    simp only [List.length_map, List.length_range, by_op] at h1
    unfold reachBytes at h1
    omega
end Go.Proofs.Ytkdohejocmkljaa.Mem
