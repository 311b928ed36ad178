/- Do a memory and the document's hold the same bytes? -/
import Derived.Test.YtkdohejocmkljaaRefC
namespace Go.Proofs.Ytkdohejocmkljaa.Ref
open Go Go.RowKit Go.Proofs.Ytkdohejocmkljaa.Step Go.Proofs.Ytkdohejocmkljaa.Mem
set_option linter.unusedVariables false
set_option linter.unusedSimpArgs false
set_option maxRecDepth 100000

set_option maxHeartbeats 1000000 in
theorem zero_any {W : World} {A : Option Addr} {c : Nat} {G : Nat → Prop} (r : Rd W A 4096 (fun _ => 0) G) :
    Calls Try.prog 41 #[.slice A 4096 c] W fun e W' => e = .returned (.bool true) ∧ W = W' := by
  have R := Lib.hid r
  clear r
  go_enter Try.func41, Try.ntmps41
  go_wp2
  go_loop [3] (fun i => ∃ k : Nat, k ≤ 4096 ∧ i = .int .i64 k) (fun i => (4096 - intOf i).toNat)
  case atStart => exact ⟨0, by omega, rfl⟩
  case round =>
    obtain ⟨k, hk, rfl⟩ := hrel
    by_cases hlt : k < 4096
    · obtain ⟨ad, rfl, _, hc, _⟩ := R.out k hlt
      go_wp2
      exact ⟨⟨k + 1, by omega, by go_num⟩, by simp [intOf]; omega⟩
    · obtain rfl : k = 4096 := by omega
      go_wp2
      go_ret
      exact ⟨rfl, rfl⟩
end Go.Proofs.Ytkdohejocmkljaa.Ref
