/- Elements of a list that was just laid: pick, of the program and of the document. -/
import Derived.Test.YtdhmfjcijcdnjaaBits
import Derived.Test.YtdhmfjcijcdnjaaStep
namespace Go.Proofs.Ytdhmfjcijcdnjaa.Enc
open Go Go.RowKit Go.Proofs.Ytdhmfjcijcdnjaa.Step
set_option linter.unusedVariables false
set_option linter.unusedSimpArgs false
set_option maxRecDepth 100000

/-- The element of a list; 0: there is none. -/
def pk (L : List Int) (x : Int) : Int := if x < 0 then 0 else L.getD x.toNat 0
theorem below_drawn {w w' : World} (h : ∃ k, w' = w.drewN k) : Below w.heap.size w w' := by
  obtain ⟨k, rfl⟩ := h
  exact ⟨rfl, rfl, rfl, Nat.le_refl _, fun _ _ => rfl⟩
theorem calls_below {P : Program} {f : FuncId} {args : Array Value} {w : World} {r : Ending} (h : Calls P f args w fun e w' => e = r ∧ ∃ k, w' = w.drewN k) : Calls P f args w fun e w' => e = r ∧ Below w.heap.size w w' := h.mono fun e w' k => ⟨k.1, below_drawn k.2⟩
theorem calls_same {P : Program} {f : FuncId} {args : Array Value} {w : World} {r : Ending} (h : Calls P f args w fun e w' => e = r ∧ w = w') : Calls P f args w fun e w' => e = r ∧ Below w.heap.size w w' := h.mono fun e w' k => ⟨k.1, by rw [← k.2]; exact Below.refl _ _⟩
def ints (L : List Int) : Array Value := (L.map fun x => Value.int .i64 x).toArray
theorem ints_at (L : List Int) (k : Nat) (h : k < L.length) : (ints L)[k]? = some (.int .i64 (L.getD k 0)) := by
  simp [ints, List.getElem?_map, List.getD, List.getElem?_eq_getElem h]
theorem pick_any {W : World} {g n : Nat} {cs : Array Value} {T : TypeId} (hb : Blk W g cs T) (L : List Int) (hcs : cs = ints L) (hn : n = L.length) (hl : L.length ≤ 1000) (x : Int) (hx : -9223372036854775808 ≤ x ∧ x < 9223372036854775808) :
    Calls Try.prog 57 #[.slice (some ⟨g, 0, none⟩) n n, .int .i64 x] W fun e w' => e = .returned (.int .i64 (pk L x)) ∧ Below W.heap.size W w' := by
  subst hn hcs
  unfold pk
  by_cases h0 : x < 0
  · rw [if_pos h0]
    go_enter Try.func57, Try.ntmps57
    go_wp2
    go_ret
    exact ⟨rfl, Below.refl _ _⟩
  · rw [if_neg h0]
    obtain ⟨k, rfl⟩ := Int.eq_ofNat_of_zero_le (show 0 ≤ x by omega)
    rw [Int.toNat_natCast]
    by_cases h1 : k < L.length
    · have hc : W.cell? ⟨g, k, none⟩ = some (.int .i64 (L.getD k 0)) := (hb.cell k).trans (ints_at L k h1)
      generalize L.getD k 0 = v at hc ⊢
      go_enter Try.func57, Try.ntmps57
      go_wp2
      go_ret
      exact ⟨rfl, Below.refl _ _⟩
    · have hz : L.getD k 0 = 0 := by simp [List.getD, List.getElem?_eq_none (show L.length ≤ k by omega)]
      rw [hz]
      go_enter Try.func57, Try.ntmps57
      go_wp2
      go_ret
      exact ⟨rfl, Below.refl _ _⟩
theorem rpick_any {W : World} {g n : Nat} {cs : Array Value} {T : TypeId} (hb : Blk W g cs T) (L : List Int) (hcs : cs = ints L) (hn : n = L.length) (hl : L.length ≤ 1000) (x : Int) (hx : -9223372036854775808 ≤ x ∧ x < 9223372036854775808) :
    Calls Try.prog 23 #[.slice (some ⟨g, 0, none⟩) n n, .int .i64 x] W fun e w' => e = .returned (.int .i64 (pk L x)) ∧ Below W.heap.size W w' := by
  subst hn hcs
  unfold pk
  by_cases h0 : x < 0
  · rw [if_pos h0]
    go_enter Try.func23, Try.ntmps23
    go_wp2
    go_ret
    exact ⟨rfl, Below.refl _ _⟩
  · rw [if_neg h0]
    obtain ⟨k, rfl⟩ := Int.eq_ofNat_of_zero_le (show 0 ≤ x by omega)
    rw [Int.toNat_natCast]
    by_cases h1 : k < L.length
    · have hc : W.cell? ⟨g, k, none⟩ = some (.int .i64 (L.getD k 0)) := (hb.cell k).trans (ints_at L k h1)
      generalize L.getD k 0 = v at hc ⊢
      go_enter Try.func23, Try.ntmps23
      go_wp2
      go_ret
      exact ⟨rfl, Below.refl _ _⟩
    · have hz : L.getD k 0 = 0 := by simp [List.getD, List.getElem?_eq_none (show L.length ≤ k by omega)]
      rw [hz]
      go_enter Try.func23, Try.ntmps23
      go_wp2
      go_ret
      exact ⟨rfl, Below.refl _ _⟩
end Go.Proofs.Ytdhmfjcijcdnjaa.Enc
