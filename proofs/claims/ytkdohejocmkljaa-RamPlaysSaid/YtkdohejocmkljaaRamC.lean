/- Numbers of a memory: Read and Write. -/
import Derived.Test.YtkdohejocmkljaaRamB
import Derived.Laws.BitsLemmas
import Derived.Laws.BitsAllLaws
namespace Go.Proofs.Ytkdohejocmkljaa.Mem
open Go Go.RowKit Go.Proofs.Ytkdohejocmkljaa.Step
set_option linter.unusedVariables false
set_option linter.unusedSimpArgs false
set_option maxRecDepth 100000

theorem below_drawn {W W' : World} (h : ∃ k, W' = W.drewN k) : Below W.heap.size W W' := by obtain ⟨k, rfl⟩ := h; exact ⟨rfl, rfl, rfl, Nat.le_refl _, fun _ _ => rfl⟩
theorem Ram.drawn {W W' : World} {h n : Nat} {base : Int} {mem : Nat → Int} {F : Nat → Prop} (r : Ram W h base n mem F) (hw : ∃ k, W' = W.drewN k) : Ram W' h base n mem F := r.below (below_drawn hw)
/-- Is it a size of a number? -/
def wholeB (s : Int) : Bool := decide (s = 1 ∨ s = 2 ∨ s = 4 ∨ s = 8)
set_option maxHeartbeats 400000 in
theorem whole_any (s : Int) (w : World) : Calls Try.prog 34 #[.int .i64 s] w fun e w' => e = .returned (.bool (wholeB s)) ∧ w = w' := by
  by_cases h1 : s = 1
  · subst h1; go_enter Try.func34, Try.ntmps34; go_wp2; go_ret; exact ⟨rfl, rfl⟩
  by_cases h2 : s = 2
  · subst h2; go_enter Try.func34, Try.ntmps34; go_wp2; go_ret; exact ⟨rfl, rfl⟩
  by_cases h3 : s = 4
  · subst h3; go_enter Try.func34, Try.ntmps34; go_wp2; go_ret; exact ⟨rfl, rfl⟩
  by_cases h4 : s = 8
  · subst h4; go_enter Try.func34, Try.ntmps34; go_wp2; go_ret; exact ⟨rfl, rfl⟩
  have E := Lib.hid (show wholeB s = false from decide_eq_false (by omega))
  have d1 : (s == 1) = false := by simpa using h1
  have d2 : (s == 2) = false := by simpa using h2
  have d3 : (s == 4) = false := by simpa using h3
  have d4 : (s == 8) = false := by simpa using h4
  go_enter Try.func34, Try.ntmps34; go_wp2; go_ret; exact ⟨by rw [E.out]; rfl, rfl⟩

/-- The number of so many bytes, the lowest first. -/
def num (mem : Nat → Int) : Nat → Nat → Int
  | _, 0 => 0
  | o, l + 1 => mem o + 256 * num mem (o + 1) l

theorem or_byte {v b : Int} (hv : 0 ≤ v ∧ v < 72057594037927936) (hb : 0 ≤ b ∧ b < 256) : bits .or .u64 (IntKind.u64.wrap (v * 256)) (IntKind.u64.wrap b) = b + 256 * v := by
  rw [IntWalk.u64_in (v * 256) (by omega), IntWalk.u64_in b (by omega), u64_or _ _ (by omega) (by omega) (by omega) (by omega)]
  have e : (v * 256).toNat ||| b.toNat = (v * 256).toNat + b.toNat := by
    rw [show (v * 256).toNat = 2 ^ 8 * v.toNat by omega]
    exact (Nat.two_pow_add_eq_or_of_lt (by omega) _).symm
  rw [e]; omega
theorem num_range {mem : Nat → Int} : ∀ (l o : Nat), (∀ i, o ≤ i → i < o + l → 0 ≤ mem i ∧ mem i < 256) → 0 ≤ num mem o l ∧ num mem o l < 256 ^ l
  | 0, _, _ => ⟨Int.le_refl _, Int.zero_lt_one⟩
  | l + 1, o, h => by
    have h0 := h o (Nat.le_refl _) (by omega)
    have h1 := num_range l (o + 1) fun i a b => h i (by omega) (by omega)
    simp only [num, Int.pow_succ]
    omega
theorem pow_small : ∀ l : Nat, l ≤ 7 → (256 : Int) ^ l ≤ 72057594037927936
  | 0, _ => by decide | 1, _ => by decide | 2, _ => by decide | 3, _ => by decide | 4, _ => by decide | 5, _ => by decide | 6, _ => by decide | 7, _ => by decide
  | n + 8, h => by omega
theorem num_step {mem : Nat → Int} {o s k : Nat} (hb : ∀ i, o ≤ i → i < o + s → 0 ≤ mem i ∧ mem i < 256) (hs : s ≤ 8) (hk : k + 1 ≤ s) :
    Value.int .u64 (bits .or .u64 (IntKind.u64.wrap (num mem (o + (k + 1)) (s - (k + 1)) * 256)) (IntKind.u64.wrap (mem (o + k)))) = Value.int .u64 (num mem (o + k) (s - k)) := by
  have h1 := num_range (s - (k + 1)) (o + (k + 1)) fun i a b => hb i (by omega) (by omega)
  have h2 := pow_small (s - (k + 1)) (by omega)
  rw [or_byte ⟨h1.1, by omega⟩ (hb _ (by omega) (by omega)), show s - k = s - (k + 1) + 1 by omega]
  rfl
theorem Ram.more {W : World} {h n : Nat} {base : Int} {mem : Nat → Int} {F F' : Nat → Prop} (r : Ram W h base n mem F) (hF : ∀ k, F k → F' k) (hb : ∀ k, F' k → k < W.heap.size) : Ram W h base n mem F' := by
  obtain ⟨fb, cs, fs, r⟩ := r
  exact ⟨fb, cs, fs, { r with frame := fun k g hk hf => ⟨hF _ (r.frame k g hk hf).1, (r.frame k g hk hf).2⟩, foot_h := hF _ r.foot_h, foot_fb := hF _ r.foot_fb, bound := hb }⟩

set_option maxHeartbeats 1000000 in
theorem read_yes {W : World} {h n : Nat} {base : Int} {mem : Nat → Int} {F : Nat → Prop} (r : Ram W h base n mem F) (addr : Int) (s : Nat) (ha : 0 ≤ addr ∧ addr < 18446744073709551616) (h1 : wholeB s = true) (h2 : hasB base n addr s = true) :
    Calls Try.prog 11 #[.pointer (some ⟨h, 0, none⟩), .int .u64 addr, .int .i64 s] W fun e W' => e = .returned (.tuple #[.int .u64 (num mem (addr - base).toNat s), .bool true]) ∧ ∃ k, W' = W.drewN k := by
  have hs : s ≤ 8 := by have := of_decide_eq_true h1; omega
  obtain ⟨hh1, hh2, hh3⟩ := of_decide_eq_true h2
  have T1 := Lib.hid (fun w => (whole_any s w).mono fun e w' h => (by rw [h1] at h; exact h : e = .returned (.bool true) ∧ w = w'))
  have hs9 : (s : Int) < 9223372036854775808 := by omega
  have T2 := Lib.hid ((has_any r addr s ha hs9).mono fun e w' h => (by rw [h2] at h; exact h : e = .returned (.bool true) ∧ ∃ k, w' = W.drewN k))
  have R := Lib.hid r
  obtain ⟨ha1, ha2⟩ := ha
  obtain ⟨n1, n2, b1, b2⟩ := r.size
  clear h1 h2 r hs9
  go_enter Try.func11, Try.ntmps11
  go_wp2_with (first
    | (go_at_call 34; refine (T1.out _).mono ?_; rintro e w1 ⟨rfl, rfl⟩)
    | (go_at_call 13; refine (T2.out).mono ?_; rintro e w1 ⟨rfl, hw⟩; have R1 := Lib.hid (R.out.drawn hw); have HW := Lib.hid hw; clear hw))
  go_loop [8, 9] (fun v i => ∃ k : Nat, k ≤ s ∧ i = .int .i64 ((k : Int) - 1) ∧ v = .int .u64 (num mem ((addr - base).toNat + k) (s - k))) (fun _ i => (intOf i + 1).toNat)
  case atStart => exact ⟨s, Nat.le_refl _, rfl, by rw [Nat.sub_self]; rfl⟩
  case round =>
    obtain ⟨k, hk, rfl, rfl⟩ := hrel
    cases k with
    | zero =>
      go_wp2
      refine bodyPost_ret (results_tmp2 rfl _ _ _) rfl ⟨rfl, HW.out⟩
    | succ k =>
      have T3 := Lib.hid (get R1.out (addr + k) (by omega) (by omega))
      go_wp2_with (go_at_call 35; refine (T3.out).mono ?_; rintro e w2 ⟨rfl, rfl⟩)
      refine ⟨⟨k, by omega, rfl, ?_⟩, by simp [intOf]⟩
      have hb : ∀ i, (addr - base).toNat ≤ i → i < (addr - base).toNat + s → 0 ≤ mem i ∧ mem i < 256 := fun i hi1 hi2 => R1.out.byte (by omega)
      rw [show (addr + (k : Int) - base).toNat = (addr - base).toNat + k by omega, num_step hb hs hk]

set_option maxHeartbeats 1000000 in
theorem read_no {W : World} {h n : Nat} {base : Int} {mem : Nat → Int} {F : Nat → Prop} (r : Ram W h base n mem F) (addr s : Int) (ha : 0 ≤ addr ∧ addr < 18446744073709551616) (hs9 : s < 9223372036854775808) (h1 : (wholeB s && hasB base n addr s) = false) :
    Calls Try.prog 11 #[.pointer (some ⟨h, 0, none⟩), .int .u64 addr, .int .i64 s] W fun e W' => e = .returned (.tuple #[.int .u64 0, .bool false]) ∧ ∃ k, W' = W.drewN k := by
  cases h2 : wholeB s with
  | false =>
    have T1 := Lib.hid (fun w => (whole_any s w).mono fun e w' h => (by rw [h2] at h; exact h : e = .returned (.bool false) ∧ w = w'))
    clear h1 h2 r
    go_enter Try.func11, Try.ntmps11
    go_wp2_with (first
      | (go_at_call 34; refine (T1.out _).mono ?_; rintro e w1 ⟨rfl, rfl⟩))
    refine bodyPost_ret (results_tmp2 rfl _ _ _) rfl ⟨rfl, 0, rfl⟩
  | true =>
    have h3 : hasB base n addr s = false := by rw [h2] at h1; exact h1
    have T1 := Lib.hid (fun w => (whole_any s w).mono fun e w' h => (by rw [h2] at h; exact h : e = .returned (.bool true) ∧ w = w'))
    have T2 := Lib.hid ((has_any r addr s ha hs9).mono fun e w' h => (by rw [h3] at h; exact h : e = .returned (.bool false) ∧ ∃ k, w' = W.drewN k))
    clear h1 h2 h3 r
    go_enter Try.func11, Try.ntmps11
    go_wp2_with (first
      | (go_at_call 34; refine (T1.out _).mono ?_; rintro e w1 ⟨rfl, rfl⟩)
      | (go_at_call 13; refine (T2.out).mono ?_; rintro e w1 ⟨rfl, hw⟩; have HW := Lib.hid hw; clear hw))
    refine bodyPost_ret (results_tmp2 rfl _ _ _) rfl ⟨rfl, HW.out⟩

theorem Grow.grow {F : Nat → Prop} {W W1 W2 : World} (h1 : W.heap.size ≤ W1.heap.size) (h2 : W1.heap.size ≤ W2.heap.size) : ∀ k, Grow (Grow F W W1) W1 W2 k → Grow F W W2 k
  | k, .inl (.inl h) => .inl h
  | k, .inl (.inr ⟨a, b⟩) => .inr ⟨a, by omega⟩
  | k, .inr ⟨a, b⟩ => .inr ⟨by omega, b⟩
theorem Grow.bound {F : Nat → Prop} {W W' : World} (hF : ∀ k, F k → k < W.heap.size) (h : W.heap.size ≤ W'.heap.size) : ∀ k, Grow F W W' k → k < W'.heap.size
  | k, .inl a => Nat.lt_of_lt_of_le (hF k a) h
  | k, .inr a => a.2
theorem mod_grow {F : Nat → Prop} {W W1 W2 : World} (h : Mod F W W1) (k : Mod (Grow F W W1) W1 W2) : Mod F W W2 := h.trans_new k fun i hi hg => hg.elim id fun e => by omega
theorem Ram.grow {W W1 W2 : World} {h n : Nat} {base : Int} {mem : Nat → Int} {F : Nat → Prop} (r : Ram W2 h base n mem (Grow (Grow F W W1) W1 W2)) (hF : ∀ k, F k → k < W.heap.size) (h1 : W.heap.size ≤ W1.heap.size) (h2 : W1.heap.size ≤ W2.heap.size) : Ram W2 h base n mem (Grow F W W2) :=
  r.more (Grow.grow h1 h2) (Grow.bound hF (Nat.le_trans h1 h2))
/-- The bytes of a number, written. -/
def wr (mem : Nat → Int) (off len : Nat) (v : Int) : Nat → Int := fun i => if off ≤ i ∧ i < off + len then v / 256 ^ (i - off) % 256 else mem i
theorem wr_zero (mem : Nat → Int) (off : Nat) (v : Int) : wr mem off 0 v = mem := funext fun i => if_neg (by omega)
theorem wr_succ (mem : Nat → Int) (off k : Nat) (v : Int) : upd (wr mem off k v) (off + k) (v / 256 ^ k % 256) = wr mem off (k + 1) v := by
  funext i
  unfold upd wr
  by_cases h : i = off + k
  · subst h; rw [if_pos rfl, if_pos (by omega), Nat.add_sub_cancel_left]
  · rw [if_neg h]
    by_cases h2 : off ≤ i ∧ i < off + k
    · rw [if_pos h2, if_pos (by omega)]
    · rw [if_neg h2, if_neg (by omega)]

set_option maxHeartbeats 1000000 in
theorem write_yes {W : World} {h n : Nat} {base : Int} {mem : Nat → Int} {F : Nat → Prop} (r : Ram W h base n mem F) (addr v : Int) (s : Nat) (ha : 0 ≤ addr ∧ addr < 18446744073709551616) (hv : 0 ≤ v ∧ v < 18446744073709551616) (h1 : wholeB s = true) (h2 : hasB base n addr s = true) :
    Calls Try.prog 12 #[.pointer (some ⟨h, 0, none⟩), .int .u64 addr, .int .i64 s, .int .u64 v] W fun e W' => e = .returned (.bool true) ∧ Ram W' h base n (wr mem (addr - base).toNat s v) (Grow F W W') ∧ Mod F W W' := by
  have hs : s ≤ 8 := by have := of_decide_eq_true h1; omega
  obtain ⟨hh1, hh2, hh3⟩ := of_decide_eq_true h2
  have T1 := Lib.hid (fun w => (whole_any s w).mono fun e w' h => (by rw [h1] at h; exact h : e = .returned (.bool true) ∧ w = w'))
  have hs9 : (s : Int) < 9223372036854775808 := by omega
  have T2 := Lib.hid ((has_any r addr s ha hs9).mono fun e w' h => (by rw [h2] at h; exact h : e = .returned (.bool true) ∧ ∃ k, w' = W.drewN k))
  have R := Lib.hid r
  obtain ⟨ha1, ha2⟩ := ha
  obtain ⟨hv1, hv2⟩ := hv
  obtain ⟨n1, n2, b1, b2⟩ := r.size
  clear h1 h2 r hs9
  go_enter Try.func12, Try.ntmps12
  go_wp2_with (first
    | (go_at_call 34; refine (T1.out _).mono ?_; rintro e w1 ⟨rfl, rfl⟩)
    | (go_at_call 13; refine (T2.out).mono ?_; rintro e w1 ⟨rfl, hw⟩; have R1 := Lib.hid (R.out.drawn hw); have HW := Lib.hid (below_drawn hw); clear hw))
  go_loopw [9, 21] (fun x i W1 => ∃ k : Nat, k ≤ s ∧ i = .int .i64 k ∧ Ram W1 h base n (wr mem (addr - base).toNat k v) (Grow F W W1) ∧ Mod F W W1) (fun _ i _ => (s - intOf i).toNat)
  case atStart =>
    refine ⟨0, Nat.zero_le _, rfl, ?_, ?_⟩
    · rw [wr_zero]; exact R1.out.more (fun k hk => .inl hk) fun k hk => hk.elim (fun h => Nat.lt_of_lt_of_le (R.out.bound k h) HW.out.size) fun h => h.2
    · exact Mod.of_below HW.out F
  case round =>
    obtain ⟨k, hk, rfl, hR, hM⟩ := hrel
    by_cases hlt : k < s
    · have T3 := Lib.hid (put hR (addr + k) (v / 2 ^ (8 * k) % 256) (by omega) (by omega) (by omega))
      have hsz := Lib.hid hM.size
      have HR := Lib.hid hR
      have HM := Lib.hid hM
      clear hR hM
      go_wp2_with (go_at_call 36; refine (T3.out).mono ?_; rintro e w2 ⟨rfl, hR, hM⟩; have HR2 := Lib.hid hR; have HM2 := Lib.hid hM; clear hR hM)
      refine ⟨⟨k + 1, by omega, rfl, ?_, mod_grow HM.out HM2.out⟩, by simp [intOf]; omega⟩
      have := (HR2.out.grow R.out.bound hsz.out HM2.out.size)
      rw [show (addr + (k : Int) - base).toNat = (addr - base).toNat + k by omega, show (2 : Int) ^ (8 * k) = 256 ^ k by rw [Int.pow_mul]; rfl, wr_succ] at this
      exact this
    · obtain rfl : k = s := by omega
      have HR := Lib.hid hR
      have HM := Lib.hid hM
      clear hR hM
      go_wp2
      go_ret
      exact ⟨rfl, HR.out, HM.out⟩

set_option maxHeartbeats 1000000 in
theorem write_no {W : World} {h n : Nat} {base : Int} {mem : Nat → Int} {F : Nat → Prop} (r : Ram W h base n mem F) (addr s v : Int) (ha : 0 ≤ addr ∧ addr < 18446744073709551616) (hs9 : s < 9223372036854775808) (h1 : (wholeB s && hasB base n addr s) = false) :
    Calls Try.prog 12 #[.pointer (some ⟨h, 0, none⟩), .int .u64 addr, .int .i64 s, .int .u64 v] W fun e W' => e = .returned (.bool false) ∧ ∃ k, W' = W.drewN k := by
  cases h2 : wholeB s with
  | false =>
    have T1 := Lib.hid (fun w => (whole_any s w).mono fun e w' h => (by rw [h2] at h; exact h : e = .returned (.bool false) ∧ w = w'))
    clear h1 h2 r
    go_enter Try.func12, Try.ntmps12
    go_wp2_with (first
      | (go_at_call 34; refine (T1.out _).mono ?_; rintro e w1 ⟨rfl, rfl⟩))
    go_ret
    exact ⟨rfl, 0, rfl⟩
  | true =>
    have h3 : hasB base n addr s = false := by rw [h2] at h1; exact h1
    have T1 := Lib.hid (fun w => (whole_any s w).mono fun e w' h => (by rw [h2] at h; exact h : e = .returned (.bool true) ∧ w = w'))
    have T2 := Lib.hid ((has_any r addr s ha hs9).mono fun e w' h => (by rw [h3] at h; exact h : e = .returned (.bool false) ∧ ∃ k, w' = W.drewN k))
    clear h1 h2 h3 r
    go_enter Try.func12, Try.ntmps12
    go_wp2_with (first
      | (go_at_call 34; refine (T1.out _).mono ?_; rintro e w1 ⟨rfl, rfl⟩)
      | (go_at_call 13; refine (T2.out).mono ?_; rintro e w1 ⟨rfl, hw⟩; have HW := Lib.hid hw; clear hw))
    go_ret
    exact ⟨rfl, HW.out⟩
end Go.Proofs.Ytkdohejocmkljaa.Mem
