/- Where a memory ends, and its numbers: Has, Read, Write. -/
import Derived.Test.YtkdohejocmkljaaRam
import Derived.Deep.QuietTactic
import Derived.BigQuiet
namespace Go.Proofs.Ytkdohejocmkljaa.Mem
open Go Go.RowKit Go.Proofs.Ytkdohejocmkljaa.Step
set_option linter.unusedVariables false
set_option linter.unusedSimpArgs false
set_option maxRecDepth 100000

/-- Facts of the two cells that every method reads. -/
theorem Ram.cells {W : World} {h n : Nat} {base : Int} {mem : Nat → Int} {F : Nat → Prop} (r : Ram W h base n mem F) : ∃ fb : Nat, W.cell? ⟨h, 0, none⟩ = some (.int .u64 base) ∧ W.cell? ⟨h, 1, none⟩ = some (.slice (some ⟨fb, 0, none⟩) n n) := by
  obtain ⟨fb, cs, fs, r⟩ := r
  have c0 := r.hdr.cell 0
  have c1 := r.hdr.cell 1
  simp only [List.getElem?_toArray, List.getElem?_cons_zero, List.getElem?_cons_succ] at c0 c1
  exact ⟨fb, c0, c1⟩

set_option maxHeartbeats 1000000 in
theorem size_any (W : World) (h fb n : Nat) (hn : n ≤ 1024) (c1 : W.cell? ⟨h, 1, none⟩ = some (.slice (some ⟨fb, 0, none⟩) n n)) :
    Calls Try.prog 37 #[.pointer (some ⟨h, 0, none⟩)] W fun e W' => e = .returned (.int .u64 (n * 4096)) ∧ W = W' := by
  go_enter Try.func37, Try.ntmps37
  go_wp2
  go_ret
  exact ⟨rfl, rfl⟩

/-- Do bytes lie in it? -/
def hasB (base : Int) (n : Nat) (addr size : Int) : Bool := decide (0 ≤ size ∧ base ≤ addr ∧ addr + size ≤ base + n * 4096)
set_option maxHeartbeats 400000 in
theorem has_any {W : World} {h n : Nat} {base : Int} {mem : Nat → Int} {F : Nat → Prop} (r : Ram W h base n mem F) (addr size : Int) (ha : 0 ≤ addr ∧ addr < 18446744073709551616) (hs : size < 9223372036854775808) :
    Calls Try.prog 13 #[.pointer (some ⟨h, 0, none⟩), .int .u64 addr, .int .i64 size] W fun e W' => e = .returned (.bool (hasB base n addr size)) ∧ ∃ k, W' = W.drewN k := by
  obtain ⟨fb, c0, c1⟩ := r.cells
  obtain ⟨n1, n2, b1, b2⟩ := r.size
  obtain ⟨ha1, ha2⟩ := ha
  have T := Lib.hid (fun W c1 => (size_any W h fb n n2 c1).mono fun e W2 h => (⟨h.1, h.2.symm⟩ : e = .returned (.int .u64 (n * 4096)) ∧ W2 = W))
  clear r
  have hsz := Lib.hid hs
  clear hs
  by_cases h1 : size < 0
  · have E := Lib.hid (show hasB base n addr size = false from decide_eq_false (by omega))
    go_enter Try.func13, Try.ntmps13
    go_wp2
    go_quiet ((go_at_call 37; exact Calls.quiet_of_same (T.out _ (by exact c1))))
    go_wp2
    go_ret
    exact ⟨by rw [E.out]; rfl, _, rfl⟩
  · have d1 : decide (size < 0) = false := by simpa using h1
    have h1' : 0 ≤ size := by omega
    clear h1
    by_cases h2 : addr < base
    · have E := Lib.hid (show hasB base n addr size = false from decide_eq_false (by omega))
      go_enter Try.func13, Try.ntmps13
      go_wp2
      go_quiet ((go_at_call 37; exact Calls.quiet_of_same (T.out _ (by exact c1))))
      go_wp2
      go_ret
      exact ⟨by rw [E.out]; rfl, _, rfl⟩
    · have d2 : decide (addr < base) = false := by simpa using h2
      have h2' : base ≤ addr := by omega
      clear h2
      have hs : IntKind.u64.wrap (addr - base) = addr - base := IntWalk.u64_in _ (by omega)
      by_cases h3 : (n : Int) * 4096 < addr - base
      · have E := Lib.hid (show hasB base n addr size = false from decide_eq_false (by omega))
        go_enter Try.func13, Try.ntmps13
        go_wp2
        go_quiet ((go_at_call 37; exact Calls.quiet_of_same (T.out _ (by exact c1))))
        go_wp2
        go_ret
        exact ⟨by rw [E.out]; rfl, _, rfl⟩
      · have d3 : decide ((n : Int) * 4096 < addr - base) = false := by simpa using h3
        have h3' : addr - base ≤ (n : Int) * 4096 := by omega
        clear h3
        have hs2 : IntKind.u64.wrap ((n : Int) * 4096 - (addr - base)) = (n : Int) * 4096 - (addr - base) := IntWalk.u64_in _ (by omega)
        have E := Lib.hid (show hasB base n addr size = decide (size ≤ (n : Int) * 4096 - (addr - base)) from decide_eq_decide.2 (by omega))
        go_enter Try.func13, Try.ntmps13
        go_wp2
        go_quiet ((go_at_call 37; exact Calls.quiet_of_same (T.out _ (by exact c1))))
        go_wp2
        obtain ⟨W1, hW1⟩ : ∃ W1, W1 = W.drewN nq := ⟨_, rfl⟩
        have c2 : W1.cell? ⟨h, 0, none⟩ = some (.int .u64 base) := by rw [hW1]; exact c0
        have c3 : W1.cell? ⟨h, 1, none⟩ = some (.slice (some ⟨fb, 0, none⟩) n n) := by rw [hW1]; exact c1
        have hs3 : IntKind.u64.wrap size = size := IntWalk.u64_in _ (by have := hsz.out; omega)
        rw [← hW1]
        have HW1 := Lib.hid hW1
        clear hW1 c0 c1
        go_quiet ((go_at_call 37; exact Calls.quiet_of_same (T.out _ (by exact c3))))
        go_wp2
        go_ret
        refine ⟨by rw [E.out]; rfl, ?_⟩
        rw [HW1.out]
        exact ⟨_, World.drewN_drewN _ _ _⟩
end Go.Proofs.Ytkdohejocmkljaa.Mem
