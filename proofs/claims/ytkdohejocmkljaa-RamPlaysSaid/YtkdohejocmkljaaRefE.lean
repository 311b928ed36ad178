/- The document's memory: Bytes, Copy. -/
import Derived.Test.YtkdohejocmkljaaRefD
import Derived.Test.YtkdohejocmkljaaLend
namespace Go.Proofs.Ytkdohejocmkljaa.Ref
open Go Go.RowKit Go.Proofs.Ytkdohejocmkljaa.Step Go.Proofs.Ytkdohejocmkljaa.Mem
set_option linter.unusedVariables false
set_option linter.unusedSimpArgs false
set_option maxRecDepth 100000

set_option maxHeartbeats 1000000 in
theorem bytes_yes {W : World} {h n : Nat} {base : Int} {mem : Nat → Int} {F : Nat → Prop} (r : Mem W h base n mem F) (addr : Int) (s : Nat) (ha : 0 ≤ addr ∧ addr < 18446744073709551616) (hs9 : (s : Int) < 9223372036854775808) (h2 : hasB base n addr s = true) :
    Calls Try.prog 30 #[.pointer (some ⟨h, 0, none⟩), .int .u64 addr, .int .i64 s] W fun e W' => ∃ g, e = .returned (.tuple #[.slice (some ⟨g, 0, none⟩) s s, .bool true]) ∧ Blk W' g (row s fun k => mem ((addr - base).toNat + k)) 5 ∧ W.heap.size ≤ g ∧ Below W.heap.size W W' := by
  obtain ⟨hh1, hh2, hh3⟩ := of_decide_eq_true h2
  have T2 := Lib.hid ((has_any r addr s ha hs9).mono fun e w' h => (by rw [h2] at h; exact h : e = .returned (.bool true) ∧ W = w'))
  obtain ⟨n1, n2, b1, b2⟩ := r.size
  have R := Lib.hid r
  obtain ⟨ha1, ha2⟩ := ha
  have s1 : s ≤ 4194304 := by omega
  have HN := Lib.hid (show 1 * s ≤ 281474976710656 by omega)
  have HN2 := Lib.hid (show s ≤ 9223372036854775807 by omega)
  clear h2 r hs9
  go_enter Try.func30, Try.ntmps30
  go_wp2_with (first
    | (go_at_call 25; refine (T2.out).mono ?_; rintro e w1 ⟨rfl, rfl⟩)
    | (refine Step.make (t := 35) rfl rfl rfl rfl Try.underlying35 mk_u8 rfl HN.out HN2.out ?_; intro g w2 b hg hb; have B1 := Lib.hid b; have HG := Lib.hid hg; have HM := Lib.hid hb; have R2 := Lib.hid (R.out.below hb); clear b hg hb))
  go_loopw [9] (fun i w => ∃ k : Nat, k ≤ s ∧ i = .int .i64 k ∧ Blk w g (row s fun j => if j < k then mem ((addr - base).toNat + j) else 0) 5 ∧ Mod (One g) w2 w) (fun i _ => (s - intOf i).toNat)
  case atStart => exact ⟨0, Nat.zero_le _, rfl, by have := B1.out; rw [row_zero] at this; simpa using this, Mod.refl _ _⟩
  case round =>
    obtain ⟨k, hk, rfl, hB, hM⟩ := hrel
    have HB := Lib.hid hB
    have HM2 := Lib.hid hM
    have RR := Lib.hid (R2.out.mod hM (fun i hi e => by have := R.out.bound i hi; have := HG.out; obtain rfl : i = g := e; omega))
    clear hB hM
    by_cases hlt : k < s
    · have T3 := Lib.hid (get RR.out (addr + k) (by omega) (by omega))
      have HI := Lib.hid (show Nat.blt k (row s fun j => if j < k then mem ((addr - base).toNat + j) else 0).size = true by rw [row_size]; exact Nat.ble_eq_true_of_le hlt)
      go_wp2_with (first
        | (go_at_call 40; refine (T3.out).mono ?_; rintro e w3 ⟨rfl, rfl⟩)
        | ((with_reducible refine Step.gate_store (t := 5) rfl ?_); refine Step.store HB.out rfl rfl rfl rfl rfl pl_u8 rfl HI.out ?_; intro w4 nb m; have NB := Lib.hid nb; have M4 := Lib.hid m; clear nb m))
      refine ⟨⟨k + 1, by omega, by go_num, ?_, HM2.out.trans M4.out⟩, by simp [intOf]; omega⟩
      have nb : Blk w4 g ((row s fun j => if j < k then mem ((addr - base).toNat + j) else 0).setIfInBounds k (.int .u8 (mem (addr + k - base).toNat))) 5 := NB.out
      rw [row_set] at nb
      refine (row_congr fun j hj => ?_) ▸ nb
      unfold upd
      by_cases e : j = k
      · subst e; rw [if_pos rfl, if_pos (by omega)]; congr 1; omega
      · rw [if_neg e]
        dsimp only
        by_cases e2 : j < k
        · rw [if_pos e2, if_pos (by omega)]
        · rw [if_neg e2, if_neg (by omega)]
    · obtain rfl : k = s := by omega
      go_wp2
      refine bodyPost_ret (results_tmp2 rfl _ _ _) rfl ⟨g, rfl, (row_congr fun j hj => if_pos hj) ▸ HB.out, HG.out, ?_⟩
      refine below_mod (Below.refl _ _) (Nat.le_refl _) ((Mod.of_below HM.out (One g)).trans HM2.out) fun i _ e => ?_
      obtain rfl : i = g := e
      exact HG.out
set_option maxHeartbeats 1000000 in
theorem bytes_no {W : World} {h n : Nat} {base : Int} {mem : Nat → Int} {F : Nat → Prop} (r : Mem W h base n mem F) (addr s : Int) (ha : 0 ≤ addr ∧ addr < 18446744073709551616) (hs9 : s < 9223372036854775808) (h2 : hasB base n addr s = false) :
    Calls Try.prog 30 #[.pointer (some ⟨h, 0, none⟩), .int .u64 addr, .int .i64 s] W fun e W' => e = .returned (.tuple #[.slice none 0 0, .bool false]) ∧ W = W' := by
  have T2 := Lib.hid ((has_any r addr s ha hs9).mono fun e w' h => (by rw [h2] at h; exact h : e = .returned (.bool false) ∧ W = w'))
  clear h2 r hs9
  by_cases h1 : s < 0
  · go_enter Try.func30, Try.ntmps30
    go_wp2
    exact bodyPost_ret (results_tmp2 rfl _ _ _) rfl ⟨rfl, rfl⟩
  · have d1 : decide (s < 0) = false := by simpa using h1
    have h1' : 0 ≤ s := by omega
    clear h1
    go_enter Try.func30, Try.ntmps30
    go_wp2_with (first
      | (go_at_call 25; refine (T2.out).mono ?_; rintro e w1 ⟨rfl, rfl⟩))
    exact bodyPost_ret (results_tmp2 rfl _ _ _) rfl ⟨rfl, rfl⟩
end Go.Proofs.Ytkdohejocmkljaa.Ref
