/- The document's memory: New, Read, Write. -/
import Derived.Test.YtkdohejocmkljaaRefB
namespace Go.Proofs.Ytkdohejocmkljaa.Ref
open Go Go.RowKit Go.Proofs.Ytkdohejocmkljaa.Step Go.Proofs.Ytkdohejocmkljaa.Mem
set_option linter.unusedVariables false
set_option linter.unusedSimpArgs false
set_option maxRecDepth 100000

theorem pow_small' {s : Nat} (hs : s ≤ 7) : (256 : Int) ^ s ≤ 72057594037927936 := pow_small s hs
set_option maxHeartbeats 1000000 in
theorem read_yes {W : World} {h n : Nat} {base : Int} {mem : Nat → Int} {F : Nat → Prop} (r : Mem W h base n mem F) (addr : Int) (s : Nat) (ha : 0 ≤ addr ∧ addr < 18446744073709551616) (h1 : wholeB s = true) (h2 : hasB base n addr s = true) :
    Calls Try.prog 27 #[.pointer (some ⟨h, 0, none⟩), .int .u64 addr, .int .i64 s] W fun e W' => e = .returned (.tuple #[.int .u64 (num mem (addr - base).toNat s), .bool true]) ∧ W = W' := by
  have hs : s ≤ 8 := by have := of_decide_eq_true h1; omega
  obtain ⟨hh1, hh2, hh3⟩ := of_decide_eq_true h2
  have T1 := Lib.hid (fun w => (right_any s w).mono fun e w' h => (by rw [h1] at h; exact h : e = .returned (.bool true) ∧ w = w'))
  have hs9 : (s : Int) < 9223372036854775808 := by omega
  have T2 := Lib.hid ((has_any r addr s ha hs9).mono fun e w' h => (by rw [h2] at h; exact h : e = .returned (.bool true) ∧ W = w'))
  have R := Lib.hid r
  obtain ⟨ha1, ha2⟩ := ha
  obtain ⟨n1, n2, b1, b2⟩ := r.size
  clear h1 h2 r hs9
  go_enter Try.func27, Try.ntmps27
  go_wp2_with (first
    | (go_at_call 38; refine (T1.out _).mono ?_; rintro e w1 ⟨rfl, rfl⟩)
    | (go_at_call 25; refine (T2.out).mono ?_; rintro e w1 ⟨rfl, rfl⟩))
  go_loop [8, 9] (fun v i => ∃ k : Nat, k ≤ s ∧ i = .int .i64 ((k : Int) - 1) ∧ v = .int .u64 (num mem ((addr - base).toNat + k) (s - k))) (fun _ i => (intOf i + 1).toNat)
  case atStart => exact ⟨s, Nat.le_refl _, rfl, by rw [Nat.sub_self]; rfl⟩
  case round =>
    obtain ⟨k, hk, rfl, rfl⟩ := hrel
    cases k with
    | zero =>
      go_wp2
      refine bodyPost_ret (results_tmp2 rfl _ _ _) rfl ⟨rfl, rfl⟩
    | succ k =>
      have T3 := Lib.hid (get R.out (addr + k) (by omega) (by omega))
      have hb : ∀ i, (addr - base).toNat ≤ i → i < (addr - base).toNat + s → 0 ≤ mem i ∧ mem i < 256 := fun i hi1 hi2 => R.out.byte (by omega)
      have h1 := num_range (s - (k + 1)) ((addr - base).toNat + (k + 1)) fun i a b => hb i (by omega) (by omega)
      have h2 := pow_small' (s := s - (k + 1)) (by omega)
      have h3 := hb ((addr - base).toNat + k) (by omega) (by omega)
      have e1 : (addr + (k : Int) - base).toNat = (addr - base).toNat + k := by omega
      have w1 : IntKind.u64.wrap (num mem ((addr - base).toNat + (k + 1)) (s - (k + 1)) * 256) = num mem ((addr - base).toNat + (k + 1)) (s - (k + 1)) * 256 := IntWalk.u64_in _ (by omega)
      have w2 : IntKind.u64.wrap (mem (addr + (k : Int) - base).toNat) = mem (addr + (k : Int) - base).toNat := by rw [e1]; exact IntWalk.u64_in _ (by omega)
      have w3 : IntKind.u64.wrap (num mem ((addr - base).toNat + (k + 1)) (s - (k + 1)) * 256 + mem (addr + (k : Int) - base).toNat) = num mem ((addr - base).toNat + (k + 1)) (s - (k + 1)) * 256 + mem (addr + (k : Int) - base).toNat := by rw [e1]; exact IntWalk.u64_in _ (by omega)
      have E := Lib.hid e1
      clear h1 h2 h3 e1 hb
      go_wp2_with (go_at_call 40; refine (T3.out).mono ?_; rintro e w2 ⟨rfl, rfl⟩)
      refine ⟨⟨k, by omega, rfl, ?_⟩, by simp [intOf]⟩
      rw [E.out, show s - k = s - (k + 1) + 1 by omega]
      simp only [num, Value.int.injEq, true_and]
      rw [show (addr - base).toNat + (k + 1) = (addr - base).toNat + k + 1 by omega]; omega

set_option maxHeartbeats 1000000 in
theorem read_no {W : World} {h n : Nat} {base : Int} {mem : Nat → Int} {F : Nat → Prop} (r : Mem W h base n mem F) (addr s : Int) (ha : 0 ≤ addr ∧ addr < 18446744073709551616) (hs9 : s < 9223372036854775808) (h1 : (wholeB s && hasB base n addr s) = false) :
    Calls Try.prog 27 #[.pointer (some ⟨h, 0, none⟩), .int .u64 addr, .int .i64 s] W fun e W' => e = .returned (.tuple #[.int .u64 0, .bool false]) ∧ W = W' := by
  cases h2 : wholeB s with
  | false =>
    have T1 := Lib.hid (fun w => (right_any s w).mono fun e w' h => (by rw [h2] at h; exact h : e = .returned (.bool false) ∧ w = w'))
    clear h1 h2 r
    go_enter Try.func27, Try.ntmps27
    go_wp2_with (first
      | (go_at_call 38; refine (T1.out _).mono ?_; rintro e w1 ⟨rfl, rfl⟩))
    refine bodyPost_ret (results_tmp2 rfl _ _ _) rfl ⟨rfl, rfl⟩
  | true =>
    have h3 : hasB base n addr s = false := by rw [h2] at h1; exact h1
    have T1 := Lib.hid (fun w => (right_any s w).mono fun e w' h => (by rw [h2] at h; exact h : e = .returned (.bool true) ∧ w = w'))
    have T2 := Lib.hid ((has_any r addr s ha hs9).mono fun e w' h => (by rw [h3] at h; exact h : e = .returned (.bool false) ∧ W = w'))
    clear h1 h2 h3 r
    go_enter Try.func27, Try.ntmps27
    go_wp2_with (first
      | (go_at_call 38; refine (T1.out _).mono ?_; rintro e w1 ⟨rfl, rfl⟩)
      | (go_at_call 25; refine (T2.out).mono ?_; rintro e w1 ⟨rfl, rfl⟩))
    refine bodyPost_ret (results_tmp2 rfl _ _ _) rfl ⟨rfl, rfl⟩

theorem mod_grow' {F : Nat → Prop} {W W1 W2 : World} (h : Mod F W W1) (k : Mod (Grow F W W1) W1 W2) : Mod F W W2 := Mem.mod_grow h k
set_option maxHeartbeats 1000000 in
theorem write_yes {W : World} {h n : Nat} {base : Int} {mem : Nat → Int} {F : Nat → Prop} (r : Mem W h base n mem F) (addr v : Int) (s : Nat) (ha : 0 ≤ addr ∧ addr < 18446744073709551616) (hv : 0 ≤ v ∧ v < 18446744073709551616) (h1 : wholeB s = true) (h2 : hasB base n addr s = true) :
    Calls Try.prog 26 #[.pointer (some ⟨h, 0, none⟩), .int .u64 addr, .int .i64 s, .int .u64 v] W fun e W' => e = .returned (.bool true) ∧ Mem W' h base n (wr mem (addr - base).toNat s v) (Grow F W W') ∧ Mod F W W' := by
  have hs : s ≤ 8 := by have := of_decide_eq_true h1; omega
  obtain ⟨hh1, hh2, hh3⟩ := of_decide_eq_true h2
  have T1 := Lib.hid (fun w => (right_any s w).mono fun e w' h => (by rw [h1] at h; exact h : e = .returned (.bool true) ∧ w = w'))
  have hs9 : (s : Int) < 9223372036854775808 := by omega
  have T2 := Lib.hid ((has_any r addr s ha hs9).mono fun e w' h => (by rw [h2] at h; exact h : e = .returned (.bool true) ∧ W = w'))
  have R := Lib.hid r
  obtain ⟨ha1, ha2⟩ := ha
  obtain ⟨n1, n2, b1, b2⟩ := r.size
  have HV := Lib.hid hv
  clear h1 h2 r hs9 hv
  go_enter Try.func26, Try.ntmps26
  go_wp2_with (first
    | (go_at_call 38; refine (T1.out _).mono ?_; rintro e w1 ⟨rfl, rfl⟩)
    | (go_at_call 25; refine (T2.out).mono ?_; rintro e w1 ⟨rfl, rfl⟩))
  go_loopw [3, 9] (fun x i W1 => ∃ k : Nat, k ≤ s ∧ i = .int .i64 k ∧ x = .int .u64 (v / 256 ^ k) ∧ Mem W1 h base n (wr mem (addr - base).toNat k v) (Grow F W W1) ∧ Mod F W W1) (fun _ i _ => (s - intOf i).toNat)
  case atStart =>
    refine ⟨0, Nat.zero_le _, rfl, by rw [Int.pow_zero, Int.ediv_one], ?_, Mod.refl _ _⟩
    rw [wr_zero]; exact R.out.more (fun k hk => .inl hk) (Grow.bound R.out.bound (Nat.le_refl _))
  case round =>
    obtain ⟨k, hk, rfl, rfl, hR, hM⟩ := hrel
    have hv0 : 0 ≤ v / 256 ^ k := Int.ediv_nonneg HV.out.1 (Int.pow_nonneg (by decide))
    have hv1 : v / 256 ^ k < 18446744073709551616 := Int.lt_of_le_of_lt (Int.ediv_le_self _ HV.out.1) HV.out.2
    by_cases hlt : k < s
    · have T3 := Lib.hid (put hR (addr + k) (v / 256 ^ k % 256) (by omega) (by omega) (by omega))
      have hsz := Lib.hid hM.size
      have HM := Lib.hid hM
      have w2 : IntKind.u8.wrap (v / 256 ^ k % 256) = v / 256 ^ k % 256 := IntWalk.u8_in _ (by omega)
      clear hR hM
      go_wp2_with (go_at_call 39; refine (T3.out).mono ?_; rintro e w2 ⟨rfl, hR, hM⟩; have HR2 := Lib.hid hR; have HM2 := Lib.hid hM; clear hR hM)
      refine ⟨⟨k + 1, by omega, by go_num, ?_, ?_, mod_grow' HM.out HM2.out⟩, by simp [intOf]; omega⟩
      · rw [Int.pow_succ, ← Int.ediv_ediv_of_nonneg (Int.pow_nonneg (by decide))]
      · have := (HR2.out.grow R.out.bound hsz.out HM2.out.size)
        rw [show (addr + (k : Int) - base).toNat = (addr - base).toNat + k by omega, wr_succ] at this
        exact this
    · obtain rfl : k = s := by omega
      have HR := Lib.hid hR
      have HM := Lib.hid hM
      clear hR hM
      go_wp2
      go_ret
      exact ⟨rfl, HR.out, HM.out⟩

set_option maxHeartbeats 1000000 in
theorem write_no {W : World} {h n : Nat} {base : Int} {mem : Nat → Int} {F : Nat → Prop} (r : Mem W h base n mem F) (addr s v : Int) (ha : 0 ≤ addr ∧ addr < 18446744073709551616) (hs9 : s < 9223372036854775808) (h1 : (wholeB s && hasB base n addr s) = false) :
    Calls Try.prog 26 #[.pointer (some ⟨h, 0, none⟩), .int .u64 addr, .int .i64 s, .int .u64 v] W fun e W' => e = .returned (.bool false) ∧ W = W' := by
  cases h2 : wholeB s with
  | false =>
    have T1 := Lib.hid (fun w => (right_any s w).mono fun e w' h => (by rw [h2] at h; exact h : e = .returned (.bool false) ∧ w = w'))
    clear h1 h2 r
    go_enter Try.func26, Try.ntmps26
    go_wp2_with (first
      | (go_at_call 38; refine (T1.out _).mono ?_; rintro e w1 ⟨rfl, rfl⟩))
    go_ret
    exact ⟨rfl, rfl⟩
  | true =>
    have h3 : hasB base n addr s = false := by rw [h2] at h1; exact h1
    have T1 := Lib.hid (fun w => (right_any s w).mono fun e w' h => (by rw [h2] at h; exact h : e = .returned (.bool true) ∧ w = w'))
    have T2 := Lib.hid ((has_any r addr s ha hs9).mono fun e w' h => (by rw [h3] at h; exact h : e = .returned (.bool false) ∧ W = w'))
    clear h1 h2 h3 r
    go_enter Try.func26, Try.ntmps26
    go_wp2_with (first
      | (go_at_call 38; refine (T1.out _).mono ?_; rintro e w1 ⟨rfl, rfl⟩)
      | (go_at_call 25; refine (T2.out).mono ?_; rintro e w1 ⟨rfl, rfl⟩))
    go_ret
    exact ⟨rfl, rfl⟩
end Go.Proofs.Ytkdohejocmkljaa.Ref
