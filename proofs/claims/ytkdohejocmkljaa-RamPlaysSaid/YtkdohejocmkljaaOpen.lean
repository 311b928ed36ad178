/- An argument's slice of whole numbers, opened: its cells, by one function. -/
import Derived.ChangeSlices
import Derived.RowKit
import Derived.WalkKit
import Derived.ProofKit
import Derived.OpenShut
import Derived.Below
namespace Go.Proofs.Ytkdohejocmkljaa
open Go Go.RowKit Go.ChangeShapes Go.WideShapes Go.ChangeAt
set_option linter.unusedVariables false
/-- A slice's numbers, in blocks of G. -/
def RdI (k : IntKind) (W : World) (A : Option Addr) (n : Nat) (f : Nat → Int) (G : Nat → Prop) : Prop := ∀ i, i < n → ∃ ad, A = some ad ∧ G ad.block ∧ W.cell? (ad.add i) = some (.int k (f i)) ∧ (Lit.int k (f i)).wf = true
theorem open_rd {H : Type} {enc : TypeId × Value → H} {P : Program} {W : World} {base : Nat} {sp : Nat → Bool} {held : Bool} {t e : TypeId} {k : IntKind} {A : Option Addr} {n c : Nat} {d : DataW H} {ps : List MemPlace}
    (ht : P.underlying t = some (.slice e)) (he : P.underlying e = some (.int k)) (hc : P.cellsOf e = 1) (h : DataW.Trod enc P W base sp held t (.slice A n c) d ps) : ∃ f, RdI k W A n f (· < W.heap.size) ∧ n ≤ 9223372036854775807 := by
  obtain ⟨fuel, hf⟩ := h
  rcases open_ints ht he hc hf with ⟨hcs, _⟩ | ⟨x, l, c', zs, hcs, _, hl, hm, hz, _, hcell, hwz⟩
  · simp [Value.cells] at hcs
    obtain ⟨rfl, rfl, rfl⟩ := hcs
    exact ⟨fun _ => 0, fun i hi => by omega, by omega⟩
  · simp [Value.cells] at hcs
    obtain ⟨rfl, rfl, rfl⟩ := hcs
    have hln : n ≤ zs.length := by rw [hz]; split <;> omega
    refine ⟨fun i => zs.getD i 0, fun i hi => ⟨x, rfl, ?_, hcell i (by omega), hwz _ ?_⟩, ?_⟩
    · have := World.block_lt_of_cell? W _ (hcell i (by omega))
      have hb : (x.add i).block = x.block := by unfold Addr.add; split <;> rfl
      rwa [hb] at this
    · show zs.getD i 0 ∈ zs
      rw [List.getD_eq_getElem?_getD, List.getElem?_eq_getElem (by omega)]; exact List.getElem_mem _
    · unfold maxLen at hm; omega
end Go.Proofs.Ytkdohejocmkljaa
