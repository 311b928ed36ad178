/- Parts of the walks and laws for the claim: RamC, RamD, Own, RamE, RamF, Pair, Ref, RefB, RefC, Same, SameB, RefD, Open, Memory; no conditions beyond the theorems' own. -/
import Derived.Below
import Derived.ChangeSlices
import Derived.Deep.RegionHeld3
import Derived.Laws.BitsAllLaws
import Derived.Laws.BitsLemmas
import Derived.Laws.Cover3
import Derived.Laws.ResultCell
import Derived.OpenShut
import Derived.ProofKit
import Derived.RowKit
import Derived.WalkKit
import Derived.Test.YtchpnbckgofiaaaGreatQ2
section
namespace Go.Proofs.YtchpnbckgofiaaaGreat.Mem
open Go Go.RowKit Go.Proofs.YtchpnbckgofiaaaGreat.Step
set_option linter.unusedVariables false
set_option linter.unusedSimpArgs false
set_option maxRecDepth 100000
theorem below_drawn {W W' : World} (h : ∃ k, W' = W.drewN k) : Below W.heap.size W W' := by obtain ⟨k, rfl⟩ := h; exact ⟨rfl, rfl, rfl, Nat.le_refl _, fun _ _ => rfl⟩
theorem Ram.drawn {W W' : World} {h n : Nat} {base : Int} {mem : Nat → Int} {F : Nat → Prop} (r : Ram W h base n mem F) (hw : ∃ k, W' = W.drewN k) : Ram W' h base n mem F := r.below (below_drawn hw)
/-- Is it a size of a number? -/
def wholeB (s : Int) : Bool := decide (s = 1 ∨ s = 2 ∨ s = 4 ∨ s = 8)
set_option maxHeartbeats 400000 in
theorem whole_any (s : Int) (w : World) : Calls Tryz.prog 56 #[.int .i64 s] w fun e w' => e = .returned (.bool (wholeB s)) ∧ w = w' := by
  by_cases h1 : s = 1
  · subst h1; go_enter Tryz.func56, Tryz.ntmps56; go_wp2; go_ret; exact ⟨rfl, rfl⟩
  by_cases h2 : s = 2
  · subst h2; go_enter Tryz.func56, Tryz.ntmps56; go_wp2; go_ret; exact ⟨rfl, rfl⟩
  by_cases h3 : s = 4
  · subst h3; go_enter Tryz.func56, Tryz.ntmps56; go_wp2; go_ret; exact ⟨rfl, rfl⟩
  by_cases h4 : s = 8
  · subst h4; go_enter Tryz.func56, Tryz.ntmps56; go_wp2; go_ret; exact ⟨rfl, rfl⟩
  have E := Lib.hid (show wholeB s = false from decide_eq_false (by omega))
  have d1 : (s == 1) = false := by simpa using h1
  have d2 : (s == 2) = false := by simpa using h2
  have d3 : (s == 4) = false := by simpa using h3
  have d4 : (s == 8) = false := by simpa using h4
  go_enter Tryz.func56, Tryz.ntmps56; go_wp2; go_ret; exact ⟨by rw [E.out]; rfl, rfl⟩
/-- The number of so many bytes, the lowest first. -/
def num (mem : Nat → Int) : Nat → Nat → Int
  | _, 0 => 0
  | o, l + 1 => mem o + 256 * num mem (o + 1) l
theorem or_byte {v b : Int} (hv : 0 ≤ v ∧ v < 72057594037927936) (hb : 0 ≤ b ∧ b < 256) : bits .or .u64 (IntKind.u64.wrap (v * 256)) (IntKind.u64.wrap b) = b + 256 * v := by
  rw [IntWalk.u64_in (v * 256) (by omega), IntWalk.u64_in b (by omega), u64_or _ _ (by omega) (by omega) (by omega) (by omega)]
  have e : (v * 256).toNat ||| b.toNat = (v * 256).toNat + b.toNat := by
    rw [show (v * 256).toNat = 2 ^ 8 * v.toNat by omega]
    exact (Nat.two_pow_add_eq_or_of_lt (by omega) _).symm
  rw [e]; omega
theorem num_range {mem : Nat → Int} : ∀ (l o : Nat), (∀ i, o ≤ i → i < o + l → 0 ≤ mem i ∧ mem i < 256) → 0 ≤ num mem o l ∧ num mem o l < 256 ^ l
  | 0, _, _ => ⟨Int.le_refl _, Int.zero_lt_one⟩
  | l + 1, o, h => by
    have h0 := h o (Nat.le_refl _) (by omega)
    have h1 := num_range l (o + 1) fun i a b => h i (by omega) (by omega)
    simp only [num, Int.pow_succ]
    omega
theorem pow_small : ∀ l : Nat, l ≤ 7 → (256 : Int) ^ l ≤ 72057594037927936
  | 0, _ => by decide | 1, _ => by decide | 2, _ => by decide | 3, _ => by decide | 4, _ => by decide | 5, _ => by decide | 6, _ => by decide | 7, _ => by decide
  | n + 8, h => by omega
theorem num_step {mem : Nat → Int} {o s k : Nat} (hb : ∀ i, o ≤ i → i < o + s → 0 ≤ mem i ∧ mem i < 256) (hs : s ≤ 8) (hk : k + 1 ≤ s) :
    Value.int .u64 (bits .or .u64 (IntKind.u64.wrap (num mem (o + (k + 1)) (s - (k + 1)) * 256)) (IntKind.u64.wrap (mem (o + k)))) = Value.int .u64 (num mem (o + k) (s - k)) := by
  have h1 := num_range (s - (k + 1)) (o + (k + 1)) fun i a b => hb i (by omega) (by omega)
  have h2 := pow_small (s - (k + 1)) (by omega)
  rw [or_byte ⟨h1.1, by omega⟩ (hb _ (by omega) (by omega)), show s - k = s - (k + 1) + 1 by omega]
  rfl
theorem Ram.more {W : World} {h n : Nat} {base : Int} {mem : Nat → Int} {F F' : Nat → Prop} (r : Ram W h base n mem F) (hF : ∀ k, F k → F' k) (hb : ∀ k, F' k → k < W.heap.size) : Ram W h base n mem F' := by
  obtain ⟨fb, cs, fs, r⟩ := r
  exact ⟨fb, cs, fs, { r with frame := fun k g hk hf => ⟨hF _ (r.frame k g hk hf).1, (r.frame k g hk hf).2⟩, foot_h := hF _ r.foot_h, foot_fb := hF _ r.foot_fb, bound := hb }⟩
set_option maxHeartbeats 1000000 in
theorem read_yes {W : World} {h n : Nat} {base : Int} {mem : Nat → Int} {F : Nat → Prop} (r : Ram W h base n mem F) (addr : Int) (s : Nat) (ha : 0 ≤ addr ∧ addr < 18446744073709551616) (h1 : wholeB s = true) (h2 : hasB base n addr s = true) :
    Calls Tryz.prog 32 #[.pointer (some ⟨h, 0, none⟩), .int .u64 addr, .int .i64 s] W fun e W' => e = .returned (.tuple #[.int .u64 (num mem (addr - base).toNat s), .bool true]) ∧ ∃ k, W' = W.drewN k := by
  have hs : s ≤ 8 := by have := of_decide_eq_true h1; omega
  obtain ⟨hh1, hh2, hh3⟩ := of_decide_eq_true h2
  have T1 := Lib.hid (fun w => (whole_any s w).mono fun e w' h => (by rw [h1] at h; exact h : e = .returned (.bool true) ∧ w = w'))
  have hs9 : (s : Int) < 9223372036854775808 := by omega
  have T2 := Lib.hid ((has_any r addr s ha hs9).mono fun e w' h => (by rw [h2] at h; exact h : e = .returned (.bool true) ∧ ∃ k, w' = W.drewN k))
  have R := Lib.hid r
  obtain ⟨ha1, ha2⟩ := ha
  obtain ⟨n1, n2, b1, b2⟩ := r.size
  clear h1 h2 r hs9
  go_enter Tryz.func32, Tryz.ntmps32
  go_wp2_with (first
 | (go_at_call 56; refine (T1.out _).mono ?_; rintro e w1 ⟨rfl, rfl⟩)
 | (go_at_call 42; refine (T2.out).mono ?_; rintro e w1 ⟨rfl, hw⟩; have R1 := Lib.hid (R.out.drawn hw); have HW := Lib.hid hw; clear hw))
  go_loop [8, 9] (fun v i => ∃ k : Nat, k ≤ s ∧ i = .int .i64 ((k : Int) - 1) ∧ v = .int .u64 (num mem ((addr - base).toNat + k) (s - k))) (fun _ i => (intOf i + 1).toNat)
  case atStart => exact ⟨s, Nat.le_refl _, rfl, by rw [Nat.sub_self]; rfl⟩
  case round =>
    obtain ⟨k, hk, rfl, rfl⟩ := hrel
    cases k with
    | zero =>
      go_wp2
      refine bodyPost_ret (results_tmp2 rfl _ _ _) rfl ⟨rfl, HW.out⟩
    | succ k =>
      have T3 := Lib.hid (get R1.out (addr + k) (by omega) (by omega))
      go_wp2_with (go_at_call 43; refine (T3.out).mono ?_; rintro e w2 ⟨rfl, rfl⟩)
      refine ⟨⟨k, by omega, rfl, ?_⟩, by simp [intOf]⟩
      have hb : ∀ i, (addr - base).toNat ≤ i → i < (addr - base).toNat + s → 0 ≤ mem i ∧ mem i < 256 := fun i hi1 hi2 => R1.out.byte (by omega)
      rw [show (addr + (k : Int) - base).toNat = (addr - base).toNat + k by omega, num_step hb hs hk]
set_option maxHeartbeats 1000000 in
theorem read_no {W : World} {h n : Nat} {base : Int} {mem : Nat → Int} {F : Nat → Prop} (r : Ram W h base n mem F) (addr s : Int) (ha : 0 ≤ addr ∧ addr < 18446744073709551616) (hs9 : s < 9223372036854775808) (h1 : (wholeB s && hasB base n addr s) = false) :
    Calls Tryz.prog 32 #[.pointer (some ⟨h, 0, none⟩), .int .u64 addr, .int .i64 s] W fun e W' => e = .returned (.tuple #[.int .u64 0, .bool false]) ∧ ∃ k, W' = W.drewN k := by
  cases h2 : wholeB s with
  | false =>
    have T1 := Lib.hid (fun w => (whole_any s w).mono fun e w' h => (by rw [h2] at h; exact h : e = .returned (.bool false) ∧ w = w'))
    clear h1 h2 r
    go_enter Tryz.func32, Tryz.ntmps32
    go_wp2_with (first
 | (go_at_call 56; refine (T1.out _).mono ?_; rintro e w1 ⟨rfl, rfl⟩))
    refine bodyPost_ret (results_tmp2 rfl _ _ _) rfl ⟨rfl, 0, rfl⟩
  | true =>
    have h3 : hasB base n addr s = false := by rw [h2] at h1; exact h1
    have T1 := Lib.hid (fun w => (whole_any s w).mono fun e w' h => (by rw [h2] at h; exact h : e = .returned (.bool true) ∧ w = w'))
    have T2 := Lib.hid ((has_any r addr s ha hs9).mono fun e w' h => (by rw [h3] at h; exact h : e = .returned (.bool false) ∧ ∃ k, w' = W.drewN k))
    clear h1 h2 h3 r
    go_enter Tryz.func32, Tryz.ntmps32
    go_wp2_with (first
 | (go_at_call 56; refine (T1.out _).mono ?_; rintro e w1 ⟨rfl, rfl⟩)
 | (go_at_call 42; refine (T2.out).mono ?_; rintro e w1 ⟨rfl, hw⟩; have HW := Lib.hid hw; clear hw))
    refine bodyPost_ret (results_tmp2 rfl _ _ _) rfl ⟨rfl, HW.out⟩
theorem Grow.grow {F : Nat → Prop} {W W1 W2 : World} (h1 : W.heap.size ≤ W1.heap.size) (h2 : W1.heap.size ≤ W2.heap.size) : ∀ k, Grow (Grow F W W1) W1 W2 k → Grow F W W2 k
  | k, .inl (.inl h) => .inl h
  | k, .inl (.inr ⟨a, b⟩) => .inr ⟨a, by omega⟩
  | k, .inr ⟨a, b⟩ => .inr ⟨by omega, b⟩
theorem Grow.bound {F : Nat → Prop} {W W' : World} (hF : ∀ k, F k → k < W.heap.size) (h : W.heap.size ≤ W'.heap.size) : ∀ k, Grow F W W' k → k < W'.heap.size
  | k, .inl a => Nat.lt_of_lt_of_le (hF k a) h
  | k, .inr a => a.2
theorem mod_grow {F : Nat → Prop} {W W1 W2 : World} (h : Mod F W W1) (k : Mod (Grow F W W1) W1 W2) : Mod F W W2 := h.trans_new k fun i hi hg => hg.elim id fun e => by omega
theorem Ram.grow {W W1 W2 : World} {h n : Nat} {base : Int} {mem : Nat → Int} {F : Nat → Prop} (r : Ram W2 h base n mem (Grow (Grow F W W1) W1 W2)) (hF : ∀ k, F k → k < W.heap.size) (h1 : W.heap.size ≤ W1.heap.size) (h2 : W1.heap.size ≤ W2.heap.size) : Ram W2 h base n mem (Grow F W W2) :=
  r.more (Grow.grow h1 h2) (Grow.bound hF (Nat.le_trans h1 h2))
/-- The bytes of a number, written. -/
def wr (mem : Nat → Int) (off len : Nat) (v : Int) : Nat → Int := fun i => if off ≤ i ∧ i < off + len then v / 256 ^ (i - off) % 256 else mem i
theorem wr_zero (mem : Nat → Int) (off : Nat) (v : Int) : wr mem off 0 v = mem := funext fun i => if_neg (by omega)
theorem wr_succ (mem : Nat → Int) (off k : Nat) (v : Int) : upd (wr mem off k v) (off + k) (v / 256 ^ k % 256) = wr mem off (k + 1) v := by
  funext i
  unfold upd wr
  by_cases h : i = off + k
  · subst h; rw [if_pos rfl, if_pos (by omega), Nat.add_sub_cancel_left]
  · rw [if_neg h]
    by_cases h2 : off ≤ i ∧ i < off + k
    · rw [if_pos h2, if_pos (by omega)]
    · rw [if_neg h2, if_neg (by omega)]
set_option maxHeartbeats 1000000 in
theorem write_yes {W : World} {h n : Nat} {base : Int} {mem : Nat → Int} {F : Nat → Prop} (r : Ram W h base n mem F) (addr v : Int) (s : Nat) (ha : 0 ≤ addr ∧ addr < 18446744073709551616) (hv : 0 ≤ v ∧ v < 18446744073709551616) (h1 : wholeB s = true) (h2 : hasB base n addr s = true) :
    Calls Tryz.prog 47 #[.pointer (some ⟨h, 0, none⟩), .int .u64 addr, .int .i64 s, .int .u64 v] W fun e W' => e = .returned (.bool true) ∧ Ram W' h base n (wr mem (addr - base).toNat s v) (Grow F W W') ∧ Mod F W W' := by
  have hs : s ≤ 8 := by have := of_decide_eq_true h1; omega
  obtain ⟨hh1, hh2, hh3⟩ := of_decide_eq_true h2
  have T1 := Lib.hid (fun w => (whole_any s w).mono fun e w' h => (by rw [h1] at h; exact h : e = .returned (.bool true) ∧ w = w'))
  have hs9 : (s : Int) < 9223372036854775808 := by omega
  have T2 := Lib.hid ((has_any r addr s ha hs9).mono fun e w' h => (by rw [h2] at h; exact h : e = .returned (.bool true) ∧ ∃ k, w' = W.drewN k))
  have R := Lib.hid r
  obtain ⟨ha1, ha2⟩ := ha
  obtain ⟨hv1, hv2⟩ := hv
  obtain ⟨n1, n2, b1, b2⟩ := r.size
  clear h1 h2 r hs9
  go_enter Tryz.func47, Tryz.ntmps47
  go_wp2_with (first
 | (go_at_call 56; refine (T1.out _).mono ?_; rintro e w1 ⟨rfl, rfl⟩)
 | (go_at_call 42; refine (T2.out).mono ?_; rintro e w1 ⟨rfl, hw⟩; have R1 := Lib.hid (R.out.drawn hw); have HW := Lib.hid (below_drawn hw); clear hw))
  go_loopw [9, 21] (fun x i W1 => ∃ k : Nat, k ≤ s ∧ i = .int .i64 k ∧ Ram W1 h base n (wr mem (addr - base).toNat k v) (Grow F W W1) ∧ Mod F W W1) (fun _ i _ => (s - intOf i).toNat)
  case atStart =>
    refine ⟨0, Nat.zero_le _, rfl, ?_, ?_⟩
    · rw [wr_zero]; exact R1.out.more (fun k hk => .inl hk) fun k hk => hk.elim (fun h => Nat.lt_of_lt_of_le (R.out.bound k h) HW.out.size) fun h => h.2
    · exact Mod.of_below HW.out F
  case round =>
    obtain ⟨k, hk, rfl, hR, hM⟩ := hrel
    by_cases hlt : k < s
    · have T3 := Lib.hid (put hR (addr + k) (v / 2 ^ (8 * k) % 256) (by omega) (by omega) (by omega))
      have hsz := Lib.hid hM.size
      have HR := Lib.hid hR
      have HM := Lib.hid hM
      clear hR hM
      go_wp2_with (go_at_call 49; refine (T3.out).mono ?_; rintro e w2 ⟨rfl, hR, hM⟩; have HR2 := Lib.hid hR; have HM2 := Lib.hid hM; clear hR hM)
      refine ⟨⟨k + 1, by omega, rfl, ?_, mod_grow HM.out HM2.out⟩, by simp [intOf]; omega⟩
      have := (HR2.out.grow R.out.bound hsz.out HM2.out.size)
      rw [show (addr + (k : Int) - base).toNat = (addr - base).toNat + k by omega, show (2 : Int) ^ (8 * k) = 256 ^ k by rw [Int.pow_mul]; rfl, wr_succ] at this
      exact this
    · obtain rfl : k = s := by omega
      have HR := Lib.hid hR
      have HM := Lib.hid hM
      clear hR hM
      go_wp2
      go_ret
      exact ⟨rfl, HR.out, HM.out⟩
end Go.Proofs.YtchpnbckgofiaaaGreat.Mem
end
section
namespace Go.Proofs.YtchpnbckgofiaaaGreat.Mem
open Go Go.RowKit Go.Proofs.YtchpnbckgofiaaaGreat.Step
set_option linter.unusedVariables false
set_option linter.unusedSimpArgs false
set_option maxRecDepth 100000
theorem mk_frs : (Tryz.prog.info? 126).map (fun i => (i.size, i.bytes, i.zero)) = some (1, 8, some (.pointer none)) := by kernel_rfl
theorem mk_u8 : (Tryz.prog.info? 5).map (fun i => (i.size, i.bytes, i.zero)) = some (1, 1, some (.int .u8 0)) := by kernel_rfl
/-- Is there a memory of so many frames at this base? -/
def newB (base n : Int) : Bool := decide (1 ≤ n ∧ n ≤ 1024 ∧ base % 4096 = 0 ∧ base ≤ 4503599627370496)
set_option maxHeartbeats 1000000 in
theorem new_yes (W : World) (base : Int) (n : Nat) (hb : 0 ≤ base ∧ base < 18446744073709551616) (h : newB base n = true) :
    Calls Tryz.prog 24 #[.int .u64 base, .int .i64 n] W fun e W' => ∃ h, e = .returned (.tuple #[.pointer (some ⟨h, 0, none⟩), .int .i64 0]) ∧ Ram W' h base n (fun _ => 0) (Grow Nil W W') ∧ Mod Nil W W' := by
  obtain ⟨h1, h2, h3, h4⟩ := of_decide_eq_true h
  obtain ⟨b1, b2⟩ := hb
  clear h
  have d1 : decide ((n : Int) < 1) = false := by simpa using h1
  have d2 : decide (1024 < (n : Int)) = false := by simpa using h2
  have d4 : decide (4503599627370496 < base) = false := by simpa using h4
  have HN := Lib.hid (show 8 * n ≤ 281474976710656 by omega)
  have HN2 := Lib.hid (show n ≤ 9223372036854775807 by omega)
  have HB := Lib.hid (⟨h1, h2, h4, b1⟩ : (1 ≤ (n : Int)) ∧ (n : Int) ≤ 1024 ∧ base ≤ 4503599627370496 ∧ 0 ≤ base)
  have hu66 := Tryz.underlying104
  clear h1 h2 h4 b2
  go_enter Tryz.func24, Tryz.ntmps24
  go_wp2_with (first
 | (refine Step.make (t := 102) rfl rfl rfl rfl Tryz.underlying102 mk_frs rfl HN.out HN2.out ?_; intro g w1 b hg hb; have B1 := Lib.hid b; have HG := Lib.hid hg; have HM := Lib.hid hb; clear b hg hb)
 | ((with_reducible refine Step.gate_box (t := 104) rfl ?_); refine Step.fresh (cs := #[.int .u64 base, .slice (some ⟨g, 0, none⟩) n n]) (T := 104) rfl ?hr ?_; (case hr => first | (go_simp; done) | (go_simp; rfl)); intro g2 w2 b hg hb; have B2 := Lib.hid b; have B3 := Lib.hid (B1.out.below hb); have HG2 := Lib.hid hg; have HM2 := Lib.hid hb; clear b hg hb))
  refine bodyPost_ret (results_tmp2 rfl _ _ _) rfl ⟨g2, rfl, ?_, Mod.of_below (below_below HM.out (HM2.out)) Nil⟩
  obtain ⟨hn1, hn2, hb1, hb2⟩ := HB.out
  have s1 := HG.out
  have s2 := HG2.out
  have l1 := B1.out.lt
  have l2 := B2.out.lt
  have l3 := B3.out.lt
  refine ⟨g, Array.replicate n (.pointer none), fun _ => none, ?_⟩
  exact { hdr := B2.out, row := B3.out, csz := by simp, n_lo := by omega, n_hi := by omega, b_lo := hb2, b_hi := hb1, at_ := fun k hk => by simp [hk], frame := fun k g hk hf => (by cases hf), none_ := fun k hk hf j hj => rfl, inj := fun k k' g hk hk' h1 h2 => (by cases h1), foot_h := .inr ⟨by omega, l2⟩, foot_fb := .inr ⟨s1, l3⟩, bound := fun k hk => hk.elim (fun h => h.elim) (fun h => h.2), byte := fun i hi => by decide }
end Go.Proofs.YtchpnbckgofiaaaGreat.Mem
end
section
namespace Go.Proofs.YtchpnbckgofiaaaGreat.Mem
open Go Go.RowKit Go.Proofs.YtchpnbckgofiaaaGreat.Step
set_option linter.unusedVariables false
set_option linter.unusedSimpArgs false
set_option maxRecDepth 100000
/-- A memory that stands in blocks newer than the call's beginning. -/
structure Own (W w : World) (h : Nat) (base : Int) (n : Nat) (mem : Nat → Int) : Prop where
  ram : Ram w h base n mem (Grow Nil W w)
  mod : Mod Nil W w
theorem Own.below {W w w' : World} {h n : Nat} {base : Int} {mem : Nat → Int} (o : Own W w h base n mem) (b : Below w.heap.size w w') : Own W w' h base n mem :=
  ⟨(o.ram.below b).more (fun k hk => hk.elim .inl fun a => .inr ⟨a.1, Nat.lt_of_lt_of_le a.2 b.size⟩) (Grow.bound (fun k hk => hk.elim) (Nat.le_trans o.mod.size b.size)), o.mod.trans (Mod.of_below b Nil)⟩
theorem Own.drawn {W w w' : World} {h n : Nat} {base : Int} {mem : Nat → Int} (o : Own W w h base n mem) (b : ∃ k, w' = w.drewN k) : Own W w' h base n mem := o.below (below_drawn b)
theorem Own.step {W w w' : World} {h n : Nat} {base : Int} {mem mem' : Nat → Int} (o : Own W w h base n mem) (r : Ram w' h base n mem' (Grow (Grow Nil W w) w w')) (m : Mod (Grow Nil W w) w w') : Own W w' h base n mem' :=
  ⟨r.grow (fun k hk => hk.elim) o.mod.size m.size, mod_grow o.mod m⟩
theorem Own.made {W w w' : World} {h n : Nat} {base : Int} {mem : Nat → Int} (b : Mod Nil W w) (r : Ram w' h base n mem (Grow Nil w w')) (m : Mod Nil w w') : Own W w' h base n mem :=
  ⟨r.more (fun k hk => hk.elim .inl fun a => .inr ⟨Nat.le_trans b.size a.1, a.2⟩) (Grow.bound (fun k hk => hk.elim) (Nat.le_trans b.size m.size)), b.trans m⟩
theorem Own.out {W w : World} {h n : Nat} {base : Int} {mem : Nat → Int} (o : Own W w h base n mem) : Below W.heap.size W w := o.mod.below
theorem tmod_bd (v n : Int) (hn : 0 < n) : -n < v.tmod n ∧ v.tmod n < n := by
  have h1 := Int.tmod_lt_of_pos v hn
  have h2 := Int.tmod_lt_of_pos (-v) hn
  rw [Int.neg_tmod] at h2
  omega
theorem emod_tmod (v n : Int) (hn : 0 < n) : v % n = if v.tmod n < 0 then v.tmod n + n else v.tmod n := by
  have hb := tmod_bd v n hn
  have e := Int.mul_tdiv_add_tmod v n
  have e2 : v % n = v.tmod n % n := by
    conv => lhs; rw [← e]
    rw [Int.mul_add_emod_self_left]
  rw [e2]
  split
  · rw [← Int.add_emod_right, Int.emod_eq_of_lt (by omega) (by omega)]
  · rw [Int.emod_eq_of_lt (by omega) (by omega)]
set_option maxHeartbeats 400000 in
theorem place_any (v n : Int) (hn : 0 < n) (hv : -9223372036854775808 ≤ v ∧ v < 9223372036854775808) (hn2 : n < 9223372036854775808) (w : World) : Calls Tryz.prog 10 #[.int .i64 v, .int .i64 n] w fun e w' => e = .returned (.int .i64 (v % n)) ∧ w = w' := by
  have h0 : n ≠ 0 := by omega
  have hr := tmod_bd v n hn
  have hw : IntKind.i64.wrap (v.tmod n) = v.tmod n := IntWalk.i64_in _ (by omega)
  have he := emod_tmod v n hn
  by_cases hneg : v.tmod n < 0
  · rw [if_pos hneg] at he
    have E := Lib.hid he
    have hw2 : IntKind.i64.wrap (v.tmod n + n) = v.tmod n + n := IntWalk.i64_in _ (by omega)
    clear hr hv hn2 hn he
    go_enter Tryz.func10, Tryz.ntmps10
    go_wp2
    go_ret
    exact ⟨by rw [E.out]; rfl, rfl⟩
  · rw [if_neg hneg] at he
    have E := Lib.hid he
    have d : decide (v.tmod n < 0) = false := by simpa using hneg
    clear hr hv hn2 hn he hneg
    go_enter Tryz.func10, Tryz.ntmps10
    go_wp2
    go_ret
    exact ⟨by rw [E.out]; rfl, rfl⟩
end Go.Proofs.YtchpnbckgofiaaaGreat.Mem
end
section
namespace Go.Proofs.YtchpnbckgofiaaaGreat.Mem
open Go Go.RowKit Go.Proofs.YtchpnbckgofiaaaGreat.Step
set_option linter.unusedVariables false
set_option linter.unusedSimpArgs false
set_option maxRecDepth 100000
/-- A slice's bytes, in blocks of G. -/
def Rd (W : World) (A : Option Addr) (n : Nat) (f : Nat → Int) (G : Nat → Prop) : Prop := ∀ k, k < n → ∃ ad, A = some ad ∧ G ad.block ∧ W.cell? (ad.add k) = some (.int .u8 (f k)) ∧ 0 ≤ f k ∧ f k < 256
theorem block_add (a : Addr) (n : Nat) : (a.add n).block = a.block := by unfold Addr.add; split <;> rfl
theorem Rd.mod {W W' : World} {A : Option Addr} {n : Nat} {f : Nat → Int} {G S : Nat → Prop} (r : Rd W A n f G) (m : Mod S W W') (hs : ∀ k, G k → ¬ S k) (hb : ∀ k, G k → k < W.heap.size) : Rd W' A n f G := fun k hk => by
  obtain ⟨ad, e, hG, hc, hv⟩ := r k hk
  exact ⟨ad, e, hG, (World.cell?_of_block (w := W) (m.block _ (by rw [block_add]; exact hb _ hG) (by rw [block_add]; exact hs _ hG))).trans hc, hv⟩
theorem Rd.below {W W' : World} {A : Option Addr} {n : Nat} {f : Nat → Int} {G : Nat → Prop} (r : Rd W A n f G) (m : Below W.heap.size W W') (hb : ∀ k, G k → k < W.heap.size) : Rd W' A n f G := r.mod (Mod.of_below m Nil) (fun _ _ h => h) hb
theorem Rd.drawn {W W' : World} {A : Option Addr} {n : Nat} {f : Nat → Int} {G : Nat → Prop} (r : Rd W A n f G) (m : ∃ k, W' = W.drewN k) : Rd W' A n f G := by obtain ⟨k, rfl⟩ := m; exact r
theorem Rd.congr {W : World} {A : Option Addr} {n : Nat} {f g : Nat → Int} {G : Nat → Prop} (r : Rd W A n f G) (h : ∀ k, k < n → f k = g k) : Rd W A n g G := fun k hk => by rw [← h k hk]; exact r k hk
theorem Rd.more {W : World} {A : Option Addr} {n : Nat} {f : Nat → Int} {G G' : Nat → Prop} (r : Rd W A n f G) (h : ∀ k, G k → G' k) : Rd W A n f G' := fun k hk => by
  obtain ⟨ad, e, hG, hc⟩ := r k hk
  exact ⟨ad, e, h _ hG, hc⟩
/-- A row of bytes. -/
def row (n : Nat) (f : Nat → Int) : Array Value := (Array.range n).map fun k => .int .u8 (f k)
theorem row_size (n : Nat) (f : Nat → Int) : (row n f).size = n := by simp [row]
theorem row_at (n : Nat) (f : Nat → Int) {k : Nat} (h : k < n) : (row n f)[k]? = some (.int .u8 (f k)) := by simp [row, h]
theorem row_set (n : Nat) (f : Nat → Int) {k : Nat} (v : Int) : (row n f).setIfInBounds k (.int .u8 v) = row n (upd f k v) := by
  apply Array.ext (by simp [row])
  intro i h1 h2
  by_cases e : k = i
  · subst e; simp [row, upd]
  · rw [Array.getElem_setIfInBounds_ne (by simpa [row] using h2) e]
    simp [row, upd, Ne.symm e]
theorem row_zero (n : Nat) : Array.replicate n (Value.int .u8 0) = row n fun _ => 0 := by
  apply Array.ext (by simp [row])
  intro i h1 h2
  simp [row]
theorem row_congr {n : Nat} {f g : Nat → Int} (h : ∀ k, k < n → f k = g k) : row n f = row n g := by
  apply Array.ext (by simp [row])
  intro i h1 h2
  simp only [row, Array.getElem_map, Array.getElem_range]
  rw [h i (by simpa [row] using h1)]
theorem rd_row {W : World} {g n : Nat} {f : Nat → Int} {G : Nat → Prop} (b : Blk W g (row n f) 5) (hG : G g) (hf : ∀ k, k < n → 0 ≤ f k ∧ f k < 256) : Rd W (some ⟨g, 0, none⟩) n f G := fun k hk => by
  refine ⟨_, rfl, hG, ?_, hf k hk⟩
  have : (⟨g, 0, none⟩ : Addr).add k = ⟨g, k, none⟩ := by unfold Addr.add; split <;> simp_all
  rw [this]
  exact (b.cell k).trans (row_at n f hk)
set_option maxHeartbeats 1000000 in
theorem same_any {W : World} {A B : Option Addr} {n ca cb : Nat} {f : Nat → Int} {G G' : Nat → Prop} (ra : Rd W A n f G) (rb : Rd W B n f G') (hn : n ≤ 1000000000000) :
    Calls Tryz.prog 22 #[.slice A n ca, .slice B n cb] W fun e W' => e = .returned (.bool true) ∧ ∃ k, W' = W.drewN k := by
  have RA := Lib.hid ra
  have RB := Lib.hid rb
  clear ra rb
  go_enter Tryz.func22, Tryz.ntmps22
  go_wp2
  go_loopw [5] (fun i w => ∃ k : Nat, k ≤ n ∧ i = .int .i64 k ∧ ∃ m, w = W.drewN m) (fun i _ => (n - intOf i).toNat)
  case atStart => exact ⟨0, Nat.zero_le _, rfl, 0, rfl⟩
  case round =>
    obtain ⟨k, hk, rfl, hm⟩ := hrel
    have HM := Lib.hid hm
    by_cases hlt : k < n
    · obtain ⟨ad, rfl, _, hc, hf1, hf2⟩ := (RA.out.drawn hm) k hlt
      obtain ⟨bd, rfl, _, hd, _⟩ := (RB.out.drawn hm) k hlt
      clear hm
      go_wp2
      go_quiet (fail)
      go_wp2
      refine ⟨⟨k + 1, by omega, by go_num, ?_⟩, by simp [intOf]; omega⟩
      obtain ⟨m, hm⟩ := HM.out
      exact ⟨m + nq, by rw [hm, World.drewN_drewN]⟩
    · clear hm
      obtain rfl : k = n := by omega
      go_wp2
      go_ret
      exact ⟨rfl, HM.out⟩
set_option maxHeartbeats 1000000 in
theorem bytes_yes {W : World} {h n : Nat} {base : Int} {mem : Nat → Int} {F : Nat → Prop} (r : Ram W h base n mem F) (addr : Int) (s : Nat) (ha : 0 ≤ addr ∧ addr < 18446744073709551616) (hs9 : (s : Int) < 9223372036854775808) (h2 : hasB base n addr s = true) :
    Calls Tryz.prog 20 #[.pointer (some ⟨h, 0, none⟩), .int .u64 addr, .int .i64 s] W fun e W' => ∃ g, e = .returned (.tuple #[.slice (some ⟨g, 0, none⟩) s s, .bool true]) ∧ Blk W' g (row s fun k => mem ((addr - base).toNat + k)) 5 ∧ W.heap.size ≤ g ∧ Below W.heap.size W W' := by
  obtain ⟨hh1, hh2, hh3⟩ := of_decide_eq_true h2
  have T2 := Lib.hid ((has_any r addr s ha hs9).mono fun e w' h => (by rw [h2] at h; exact h : e = .returned (.bool true) ∧ ∃ k, w' = W.drewN k))
  obtain ⟨n1, n2, b1, b2⟩ := r.size
  have R := Lib.hid r
  obtain ⟨ha1, ha2⟩ := ha
  have s1 : s ≤ 4194304 := by omega
  have HN := Lib.hid (show 1 * s ≤ 281474976710656 by omega)
  have HN2 := Lib.hid (show s ≤ 9223372036854775807 by omega)
  clear h2 r hs9
  go_enter Tryz.func20, Tryz.ntmps20
  go_wp2_with (first
 | (go_at_call 42; refine (T2.out).mono ?_; rintro e w1 ⟨rfl, hw⟩; have R1 := Lib.hid (R.out.drawn hw); have HW := Lib.hid (below_drawn hw); clear hw)
 | (refine Step.make (t := 23) rfl rfl rfl rfl Tryz.underlying23 mk_u8 rfl HN.out HN2.out ?_; intro g w2 b hg hb; have B1 := Lib.hid b; have HG := Lib.hid hg; have HM := Lib.hid hb; have R2 := Lib.hid (R1.out.below hb); clear b hg hb))
  go_loopw [9, 19] (fun x i w => ∃ k : Nat, k ≤ s ∧ i = .int .i64 k ∧ Blk w g (row s fun j => if j < k then mem ((addr - base).toNat + j) else 0) 5 ∧ Mod (One g) w2 w) (fun _ i _ => (s - intOf i).toNat)
  case atStart => exact ⟨0, Nat.zero_le _, rfl, by have := B1.out; rw [row_zero] at this; simpa using this, Mod.refl _ _⟩
  case round =>
    obtain ⟨k, hk, rfl, hB, hM⟩ := hrel
    have HB := Lib.hid hB
    have HM2 := Lib.hid hM
    have RR := Lib.hid (R2.out.mod hM (fun i hi e => by have := R.out.bound i hi; have := HG.out; have := HW.out.size; obtain rfl : i = g := e; omega))
    clear hB hM
    by_cases hlt : k < s
    · have T3 := Lib.hid (get RR.out (addr + k) (by omega) (by omega))
      have HI := Lib.hid (show Nat.blt k (row s fun j => if j < k then mem ((addr - base).toNat + j) else 0).size = true by rw [row_size]; exact Nat.ble_eq_true_of_le hlt)
      go_wp2_with (first
 | (go_at_call 43; refine (T3.out).mono ?_; rintro e w3 ⟨rfl, rfl⟩)
 | (refine Step.store HB.out rfl rfl rfl rfl rfl pl_u8 rfl HI.out ?_; intro w4 nb m; have NB := Lib.hid nb; have M4 := Lib.hid m; clear nb m))
      refine ⟨⟨k + 1, by omega, by go_num, ?_, HM2.out.trans M4.out⟩, by simp [intOf]; omega⟩
      have nb : Blk w4 g ((row s fun j => if j < k then mem ((addr - base).toNat + j) else 0).setIfInBounds k (.int .u8 (mem (addr + k - base).toNat))) 5 := NB.out
      rw [row_set] at nb
      refine (row_congr fun j hj => ?_) ▸ nb
      unfold upd
      by_cases e : j = k
      · subst e; rw [if_pos rfl, if_pos (by omega)]; congr 1; omega
      · rw [if_neg e]
        dsimp only
        by_cases e2 : j < k
        · rw [if_pos e2, if_pos (by omega)]
        · rw [if_neg e2, if_neg (by omega)]
    · obtain rfl : k = s := by omega
      go_wp2
      refine bodyPost_ret (results_tmp2 rfl _ _ _) rfl ⟨g, rfl, (row_congr fun j hj => if_pos hj) ▸ HB.out, Nat.le_trans HW.out.size HG.out, ?_⟩
      have b2 : Below W.heap.size W w2 := HW.out.trans (HM.out.mono HW.out.size)
      refine below_mod (Below.refl _ _) (Nat.le_refl _) ((Mod.of_below b2 (One g)).trans HM2.out) fun i _ e => ?_
      obtain rfl : i = g := e
      exact Nat.le_trans HW.out.size HG.out
/-- Bytes, filled in. -/
def fl (mem : Nat → Int) (off len : Nat) (f : Nat → Int) : Nat → Int := fun i => if off ≤ i ∧ i < off + len then f (i - off) else mem i
theorem fl_zero (mem : Nat → Int) (off : Nat) (f : Nat → Int) : fl mem off 0 f = mem := funext fun i => if_neg (by omega)
theorem fl_succ (mem : Nat → Int) (off k : Nat) (f : Nat → Int) : upd (fl mem off k f) (off + k) (f k) = fl mem off (k + 1) f := by
  funext i
  unfold upd fl
  by_cases h : i = off + k
  · subst h; rw [if_pos rfl, if_pos (by omega), Nat.add_sub_cancel_left]
  · rw [if_neg h]
    by_cases h2 : off ≤ i ∧ i < off + k
    · rw [if_pos h2, if_pos (by omega)]
    · rw [if_neg h2, if_neg (by omega)]
set_option maxHeartbeats 1000000 in
theorem fill_yes {W : World} {h n : Nat} {base : Int} {mem : Nat → Int} {F G : Nat → Prop} (r : Ram W h base n mem F) (addr : Int) {A : Option Addr} {s c : Nat} {f : Nat → Int} (rb : Rd W A s f G) (hG : ∀ k, G k → ¬ F k ∧ k < W.heap.size) (ha : 0 ≤ addr ∧ addr < 18446744073709551616) (h2 : hasB base n addr s = true) :
    Calls Tryz.prog 27 #[.pointer (some ⟨h, 0, none⟩), .int .u64 addr, .slice A s c] W fun e W' => e = .returned (.bool true) ∧ Ram W' h base n (fl mem (addr - base).toNat s f) (Grow F W W') ∧ Mod F W W' := by
  obtain ⟨hh1, hh2, hh3⟩ := of_decide_eq_true h2
  obtain ⟨n1, n2, b1, b2⟩ := r.size
  have hs9 : (s : Int) < 9223372036854775808 := by omega
  have T2 := Lib.hid ((has_any r addr s ha hs9).mono fun e w' h => (by rw [h2] at h; exact h : e = .returned (.bool true) ∧ ∃ k, w' = W.drewN k))
  have R := Lib.hid r
  have RB := Lib.hid rb
  have HG := Lib.hid hG
  obtain ⟨ha1, ha2⟩ := ha
  have s1 : s ≤ 4194304 := by omega
  clear h2 r hs9 rb hG
  go_enter Tryz.func27, Tryz.ntmps27
  go_wp2_with (first
 | (go_at_call 42; refine (T2.out).mono ?_; rintro e w1 ⟨rfl, hw⟩; have R1 := Lib.hid (R.out.drawn hw); have HW := Lib.hid (below_drawn hw); clear hw))
  go_loopw [7, 8, 17] (fun x y i W1 => ∃ k : Nat, k ≤ s ∧ i = .int .i64 k ∧ Ram W1 h base n (fl mem (addr - base).toNat k f) (Grow F W W1) ∧ Mod F W W1) (fun _ _ i _ => (s - intOf i).toNat)
  case atStart =>
    refine ⟨0, Nat.zero_le _, rfl, ?_, ?_⟩
    · rw [fl_zero]; exact R1.out.more (fun k hk => .inl hk) (Grow.bound R.out.bound HW.out.size)
    · exact Mod.of_below HW.out F
  case round =>
    obtain ⟨k, hk, rfl, hR, hM⟩ := hrel
    by_cases hlt : k < s
    · obtain ⟨ad, rfl, _, hc, hf⟩ := (RB.out.mod hM (fun i hi => (HG.out i hi).1) (fun i hi => (HG.out i hi).2)) k hlt
      have T3 := Lib.hid (put hR (addr + k) (f k) (by omega) (by omega) hf)
      have hsz := Lib.hid hM.size
      have HM := Lib.hid hM
      clear hR hM hf
      go_wp2_with (go_at_call 49; refine (T3.out).mono ?_; rintro e w2 ⟨rfl, hR, hM⟩; have HR2 := Lib.hid hR; have HM2 := Lib.hid hM; clear hR hM)
      refine ⟨⟨k + 1, by omega, by go_num, ?_, mod_grow HM.out HM2.out⟩, by simp [intOf]; omega⟩
      have := (HR2.out.grow R.out.bound hsz.out HM2.out.size)
      rw [show (addr + (k : Int) - base).toNat = (addr - base).toNat + k by omega, fl_succ] at this
      exact this
    · obtain rfl : k = s := by omega
      have HR := Lib.hid hR
      have HM := Lib.hid hM
      clear hR hM
      go_wp2
      go_ret
      exact ⟨rfl, HR.out, HM.out⟩
end Go.Proofs.YtchpnbckgofiaaaGreat.Mem
end
section
namespace Go.Proofs.YtchpnbckgofiaaaGreat.Mem
open Go Go.RowKit Go.Proofs.YtchpnbckgofiaaaGreat.Step
set_option linter.unusedVariables false
set_option linter.unusedSimpArgs false
set_option maxRecDepth 100000
/-- The first k frames of a content. -/
def first (mem : Nat → Int) (k : Nat) : Nat → Int := fun i => if i < k * 4096 then mem i else 0
end Go.Proofs.YtchpnbckgofiaaaGreat.Mem
end
section
namespace Go.Proofs.YtchpnbckgofiaaaGreat.Mem
open Go Go.RowKit Go.Proofs.YtchpnbckgofiaaaGreat.Step
set_option linter.unusedVariables false
set_option linter.unusedSimpArgs false
set_option maxRecDepth 100000
/-- Two memories of the call's own. -/
structure Pair (W w : World) (h1 : Nat) (b1 : Int) (n1 : Nat) (m1 : Nat → Int) (h2 : Nat) (b2 : Int) (n2 : Nat) (m2 : Nat → Int) (F1 F2 : Nat → Prop) : Prop where
  one : Ram w h1 b1 n1 m1 F1
  two : Ram w h2 b2 n2 m2 F2
  apart : ∀ k, F1 k → ¬ F2 k
  new : ∀ k, F1 k ∨ F2 k → W.heap.size ≤ k
  mod : Mod Nil W w
theorem Pair.below {W w w' : World} {h1 n1 h2 n2 : Nat} {b1 b2 : Int} {m1 m2 : Nat → Int} {F1 F2 : Nat → Prop} (p : Pair W w h1 b1 n1 m1 h2 b2 n2 m2 F1 F2) (b : Below w.heap.size w w') : Pair W w' h1 b1 n1 m1 h2 b2 n2 m2 F1 F2 :=
  ⟨p.one.below b, p.two.below b, p.apart, p.new, p.mod.trans (Mod.of_below b Nil)⟩
theorem Pair.drawn {W w w' : World} {h1 n1 h2 n2 : Nat} {b1 b2 : Int} {m1 m2 : Nat → Int} {F1 F2 : Nat → Prop} (p : Pair W w h1 b1 n1 m1 h2 b2 n2 m2 F1 F2) (b : ∃ k, w' = w.drewN k) : Pair W w' h1 b1 n1 m1 h2 b2 n2 m2 F1 F2 := p.below (below_drawn b)
/-- One memory of the call's own. -/
structure Solo (W w : World) (h : Nat) (b : Int) (n : Nat) (mem : Nat → Int) (F : Nat → Prop) : Prop where
  ram : Ram w h b n mem F
  new : ∀ k, F k → W.heap.size ≤ k
  mod : Mod Nil W w
theorem Solo.made {W w w' : World} {h n : Nat} {b : Int} {mem : Nat → Int} (m0 : Mod Nil W w) (r : Ram w' h b n mem (Grow Nil w w')) (m : Mod Nil w w') : Solo W w' h b n mem (Grow Nil w w') :=
  ⟨r, fun k hk => hk.elim (fun h => h.elim) fun h => Nat.le_trans m0.size h.1, m0.trans m⟩
theorem Solo.below {W w w' : World} {h n : Nat} {b : Int} {mem : Nat → Int} {F : Nat → Prop} (s : Solo W w h b n mem F) (m : Below w.heap.size w w') : Solo W w' h b n mem F := ⟨s.ram.below m, s.new, s.mod.trans (Mod.of_below m Nil)⟩
theorem Solo.drawn {W w w' : World} {h n : Nat} {b : Int} {mem : Nat → Int} {F : Nat → Prop} (s : Solo W w h b n mem F) (m : ∃ k, w' = w.drewN k) : Solo W w' h b n mem F := s.below (below_drawn m)
theorem Solo.step {W w w' : World} {h n : Nat} {b : Int} {mem mem' : Nat → Int} {F : Nat → Prop} (s : Solo W w h b n mem F) (r : Ram w' h b n mem' (Grow F w w')) (m : Mod F w w') : Solo W w' h b n mem' (Grow F w w') :=
  ⟨r, fun k hk => hk.elim (s.new k) fun h => Nat.le_trans s.mod.size h.1, s.mod.trans_new m fun i hi h => by have := s.new i h; omega⟩
/-- Something newer is turned. -/
theorem Solo.other {W w w' : World} {h n : Nat} {b : Int} {mem : Nat → Int} {F S : Nat → Prop} (s : Solo W w h b n mem F) (m : Mod S w w') (hs : ∀ k, F k → ¬ S k) (hn : ∀ k, S k → W.heap.size ≤ k) : Solo W w' h b n mem F :=
  ⟨s.ram.mod m hs, s.new, s.mod.trans_new m fun i hi h => by have := hn i h; omega⟩
theorem Solo.out {W w : World} {h n : Nat} {b : Int} {mem : Nat → Int} {F : Nat → Prop} (s : Solo W w h b n mem F) : Below W.heap.size W w := s.mod.below
theorem Pair.made {W w w' : World} {h1 n1 h2 n2 : Nat} {b1 b2 : Int} {m1 m2 : Nat → Int} {F : Nat → Prop} (s : Solo W w h1 b1 n1 m1 F) (r : Ram w' h2 b2 n2 m2 (Grow Nil w w')) (b : Below w.heap.size w w') : Pair W w' h1 b1 n1 m1 h2 b2 n2 m2 F (Grow Nil w w') :=
  ⟨s.ram.below b, r, fun k h1 h2 => by
      have := s.ram.bound k h1
      rcases h2 with h2 | h2
      · exact h2
      · omega, fun k hk => by
      rcases hk with h | (h | h)
      · exact s.new k h
      · exact h.elim
      · exact Nat.le_trans s.mod.size h.1, s.mod.trans (Mod.of_below b Nil)⟩
theorem Pair.out {W w : World} {h1 n1 h2 n2 : Nat} {b1 b2 : Int} {m1 m2 : Nat → Int} {F1 F2 : Nat → Prop} (p : Pair W w h1 b1 n1 m1 h2 b2 n2 m2 F1 F2) : Below W.heap.size W w := p.mod.below
/-- The bytes of a memory, their number told as a number of the program. -/
theorem bytes_z {W : World} {h n : Nat} {base : Int} {mem : Nat → Int} {F : Nat → Prop} (r : Ram W h base n mem F) (addr z : Int) (s : Nat) (hz : z = s) (ha : 0 ≤ addr ∧ addr < 18446744073709551616) (hs9 : (s : Int) < 9223372036854775808) (h2 : hasB base n addr s = true) :
    Calls Tryz.prog 20 #[.pointer (some ⟨h, 0, none⟩), .int .u64 addr, .int .i64 z] W fun e W' => ∃ g, e = .returned (.tuple #[.slice (some ⟨g, 0, none⟩) s s, .bool true]) ∧ Blk W' g (row s fun k => mem ((addr - base).toNat + k)) 5 ∧ W.heap.size ≤ g ∧ Below W.heap.size W W' := by
  subst hz; exact bytes_yes r addr s ha hs9 h2
theorem make_u8 (n : Nat) (hn : n ≤ 100000000000) (w : World) : (Instr.makeSlice 23 (.int .i64 n) (.int .i64 n)).run Tryz.prog w = .ok (.slice (some ⟨w.heap.size, 0, none⟩) n n) (w.alloc (.cells (row n fun _ => 0) 5 (0, 0))) := by
  have h := mk_u8
  cases hi' : Tryz.prog.info? 5 with
  | none => rw [hi'] at h; cases h
  | some i =>
    rw [hi'] at h
    simp only [Option.map_some, Option.some.injEq, Prod.mk.injEq] at h
    obtain ⟨h1, h2, h3⟩ := h
    have hr := run_make (P := Tryz.prog) w 23 5 i _ Tryz.underlying23 hi' h3 .i64 .i64 n n (by omega) (Int.le_refl _) (by rw [h2]; omega) (by omega)
    simp only [Int.toNat_natCast, h1, Nat.mul_one, Value.cells, madeCells_one, row_zero] at hr
    exact hr
end Go.Proofs.YtchpnbckgofiaaaGreat.Mem
end
section
namespace Go.Proofs.YtchpnbckgofiaaaGreat.Ref
open Go Go.RowKit Go.Proofs.YtchpnbckgofiaaaGreat.Step Go.Proofs.YtchpnbckgofiaaaGreat.Mem
set_option linter.unusedVariables false
set_option linter.unusedSimpArgs false
set_option maxRecDepth 100000
def sl : Option (Nat × Nat) → Value
  | none => .slice none 0 0
  | some (g, c) => .slice (some ⟨g, 0, none⟩) 4096 c
theorem eql_nil (w : World) : (binOp .eql 23 (.slice none 0 0) (.slice none 0 0)).run Tryz.prog w = .ok (.bool true) w := by
  have := run_equal_slice_nil (P := Tryz.prog) w 23 _ none 0 0 Tryz.underlying23
  simp [binOp, this, Result.andThen]
theorem eql_some (w : World) (ad : Addr) (n c : Nat) : (binOp .eql 23 (.slice (some ad) n c) (.slice none 0 0)).run Tryz.prog w = .ok (.bool false) w := by
  have := run_equal_slice_nil (P := Tryz.prog) w 23 _ (some ad) n c Tryz.underlying23
  simp [binOp, this, Result.andThen]
set_option maxHeartbeats 1000000 in
theorem get_nil (W : World) (h fb n : Nat) (base addr : Int) (k : Nat) (hb : 0 ≤ base) (ha : base ≤ addr) (ha2 : addr < 18446744073709551616) (hk : (addr - base) / 4096 = (k : Int)) (hkn : k < n) (hn : n ≤ 1024)
    (c0 : W.cell? ⟨h, 0, none⟩ = some (.int .u64 base)) (c1 : W.cell? ⟨h, 2, none⟩ = some (.slice (some ⟨fb, 0, none⟩) n n)) (ck : W.cell? ⟨fb, k, none⟩ = some (.slice none 0 0)) :
    Calls Tryz.prog 64 #[.pointer (some ⟨h, 0, none⟩), .int .u64 addr] W fun e W' => e = .returned (.int .u8 0) ∧ W = W' := by
  have hs : IntKind.u64.wrap (addr - base) = addr - base := IntWalk.u64_in _ (by omega)
  have hu35 := eql_nil
  have hu36 := eql_some
  go_enter Tryz.func64, Tryz.ntmps64
  go_wp2
  go_ret
  exact ⟨rfl, rfl⟩
set_option maxHeartbeats 1000000 in
theorem get_frame (W : World) (h fb n g c : Nat) (base addr v : Int) (k j : Nat) (hb : 0 ≤ base) (ha : base ≤ addr) (ha2 : addr < 18446744073709551616) (hk : (addr - base) / 4096 = (k : Int)) (hj : (addr - base) % 4096 = (j : Int)) (hjn : j < 4096) (hkn : k < n) (hn : n ≤ 1024)
    (c0 : W.cell? ⟨h, 0, none⟩ = some (.int .u64 base)) (c1 : W.cell? ⟨h, 2, none⟩ = some (.slice (some ⟨fb, 0, none⟩) n n)) (ck : W.cell? ⟨fb, k, none⟩ = some (.slice (some ⟨g, 0, none⟩) 4096 c)) (cj : W.cell? ⟨g, j, none⟩ = some (.int .u8 v)) :
    Calls Tryz.prog 64 #[.pointer (some ⟨h, 0, none⟩), .int .u64 addr] W fun e W' => e = .returned (.int .u8 v) ∧ W = W' := by
  have hs : IntKind.u64.wrap (addr - base) = addr - base := IntWalk.u64_in _ (by omega)
  have hu35 := eql_nil
  have hu36 := eql_some
  go_enter Tryz.func64, Tryz.ntmps64
  go_wp2
  go_ret
  exact ⟨rfl, rfl⟩
set_option maxHeartbeats 1000000 in
theorem put_old (W : World) (h fb n g c : Nat) (base addr v : Int) (cs bs : Array Value) (k j : Nat) (hb : 0 ≤ base) (ha : base ≤ addr) (ha2 : addr < 18446744073709551616) (hk : (addr - base) / 4096 = (k : Int)) (hj : (addr - base) % 4096 = (j : Int)) (hjn : j < 4096) (hkn : k < n) (hn : n ≤ 1024)
    (b0 : Step.Blk W h #[.int .u64 base, .int .i64 n, .slice (some ⟨fb, 0, none⟩) n n] 57) (b1 : Step.Blk W fb cs 23) (ck : cs[k]? = some (.slice (some ⟨g, 0, none⟩) 4096 c)) (b2 : Step.Blk W g bs 5) (hbs : 4096 ≤ bs.size) :
    Calls Tryz.prog 51 #[.pointer (some ⟨h, 0, none⟩), .int .u64 addr, .int .u8 v] W fun e W' => e = .returned (.tuple #[]) ∧ Step.Blk W' g (bs.setIfInBounds j (.int .u8 v)) 5 ∧ Step.Mod (Step.One g) W W' := by
  have hs : IntKind.u64.wrap (addr - base) = addr - base := IntWalk.u64_in _ (by omega)
  have hu35 := eql_nil
  have hu36 := eql_some
  have c0 := b0.cell 0
  have c1 := b0.cell 2
  have ck' := (b1.cell k).trans ck
  have B2 := Lib.hid b2
  have HJ2 := Lib.hid (show Nat.blt j bs.size = true from Nat.ble_eq_true_of_le (by omega))
  clear hbs b0 b1 ck b2
  simp only [List.getElem?_toArray, List.getElem?_cons_zero, List.getElem?_cons_succ] at c0 c1
  go_enter Tryz.func51, Tryz.ntmps51
  go_wp2_with (first
 | (refine Step.store B2.out rfl rfl rfl rfl rfl pl_u8 rfl HJ2.out ?_; intro w1 n2 m; have N2 := Lib.hid n2; have M := Lib.hid m; clear n2 m))
  go_end0
  exact ⟨rfl, N2.out, M.out⟩
theorem make_4096 (w : World) : (Instr.makeSlice 23 (.int .i64 4096) (.int .i64 4096)).run Tryz.prog w = .ok (.slice (some ⟨w.heap.size, 0, none⟩) 4096 4096) (w.alloc (.cells (row 4096 fun _ => 0) 5 (0, 0))) := make_u8 4096 (by omega) w
set_option maxHeartbeats 1000000 in
theorem put_new (W : World) (h fb n : Nat) (base addr v : Int) (cs : Array Value) (k j : Nat) (hb : 0 ≤ base) (ha : base ≤ addr) (ha2 : addr < 18446744073709551616) (hk : (addr - base) / 4096 = (k : Int)) (hj : (addr - base) % 4096 = (j : Int)) (hjn : j < 4096) (hkn : k < n) (hn : n ≤ 1024)
    (b0 : Step.Blk W h #[.int .u64 base, .int .i64 n, .slice (some ⟨fb, 0, none⟩) n n] 57) (b1 : Step.Blk W fb cs 23) (hcs : cs.size = n) (hne : h ≠ fb) (ck : cs[k]? = some (.slice none 0 0)) :
    Calls Tryz.prog 51 #[.pointer (some ⟨h, 0, none⟩), .int .u64 addr, .int .u8 v] W fun e W' => e = .returned (.tuple #[]) ∧ ∃ g, Step.Blk W' g (row 4096 (upd (fun _ => 0) j v)) 5 ∧ Step.Blk W' fb (cs.setIfInBounds k (.slice (some ⟨g, 0, none⟩) 4096 4096)) 23 ∧ W.heap.size ≤ g ∧ Step.Mod (Step.One fb) W W' := by
  have hs : IntKind.u64.wrap (addr - base) = addr - base := IntWalk.u64_in _ (by omega)
  have hu35 := eql_nil
  have hu36 := eql_some
  have c0 := b0.cell 0
  have c1 := b0.cell 2
  have ck' := (b1.cell k).trans ck
  have lt0 := b0.lt
  have lt1 := b1.lt
  have B0 := Lib.hid b0
  have B1 := Lib.hid b1
  have HK2 := Lib.hid (show Nat.blt k cs.size = true by rw [hcs]; exact Nat.ble_eq_true_of_le hkn)
  have HMK := make_4096
  have fz : ∀ o, ((W.alloc o).drew).frozen? ⟨fb, k, none⟩ = false := fun o => ((b1.below (alloc_below W o)).frozen k)
  have hne2 : (⟨h, 2, none⟩ : Addr) ≠ ⟨fb, k, none⟩ := fun e => hne (congrArg Addr.block e)
  have hne3 : ¬ h = fb := hne
  have fz3 : ∀ o, (W.alloc o).frozen? ⟨fb, k, none⟩ = false := fun o => ((b1.below (alloc_below W o)).frozen k)
  have hkeep : ∀ v o, (((W.setCell ⟨fb, k, none⟩ v).alloc o).drew).cell? ⟨h, 2, none⟩ = some (.slice (some ⟨fb, 0, none⟩) n n) := fun v o => ((((b0.one (setCell_mod W fb k v) hne).below (alloc_below _ o)).cell 2).trans rfl : _)
  clear b0 b1 ck hcs
  simp only [List.getElem?_toArray, List.getElem?_cons_zero, List.getElem?_cons_succ] at c0 c1
  go_enter Tryz.func51, Tryz.ntmps51
  go_wp2
  go_region_held3 (fun w' => w'.cell? ⟨h, 2, none⟩ = some (.slice (some ⟨fb, 0, none⟩) n n)) (first | go_keep | exact hkeep _ _) (fail)
  rename_i hHeld
  have hsz : (W.setCell ⟨fb, k, none⟩ (.slice (some ⟨W.heap.size, 0, none⟩) 4096 4096)).heap.size = W.heap.size := by simp [World.setCell]
  have al : Below (W.setCell ⟨fb, k, none⟩ (.slice (some ⟨W.heap.size, 0, none⟩) 4096 4096)).heap.size (W.setCell ⟨fb, k, none⟩ (.slice (some ⟨W.heap.size, 0, none⟩) 4096 4096)) ((W.setCell ⟨fb, k, none⟩ (.slice (some ⟨W.heap.size, 0, none⟩) 4096 4096)).alloc (.cells (row 4096 fun _ => 0) 5 (0, 0))).drew := (alloc_below _ _).drew
  obtain ⟨W2, hW2⟩ : ∃ W2, W2 = ((W.setCell ⟨fb, k, none⟩ (.slice (some ⟨W.heap.size, 0, none⟩) 4096 4096)).alloc (.cells (row 4096 fun _ => 0) 5 (0, 0))).drew := ⟨_, rfl⟩
  have m1 : Step.Mod (Step.One fb) W W2 := by rw [hW2]; exact (setCell_mod W fb k _).trans (Mod.of_below al _)
  have bf : Step.Blk W2 fb (cs.setIfInBounds k (.slice (some ⟨W.heap.size, 0, none⟩) 4096 4096)) 23 := by rw [hW2]; exact (setCell_out W fb k _ cs _ B1.out).below al
  have bg : Step.Blk W2 W.heap.size (row 4096 fun _ => 0) 5 := by
    have := (alloc_out (W.setCell ⟨fb, k, none⟩ (.slice (some ⟨W.heap.size, 0, none⟩) 4096 4096)) (row 4096 fun _ => 0) 5)
    rw [hsz] at this
    rw [hW2]; exact ⟨this.out⟩
  have d2 := ((B0.out.one m1 hne).cell 2)
  have dk := bf.cell k
  rw [Array.getElem?_setIfInBounds_self_of_lt (Nat.le_of_ble_eq_true HK2.out)] at dk
  simp only [List.getElem?_toArray, List.getElem?_cons_zero, List.getElem?_cons_succ] at d2
  have M1 := Lib.hid m1
  have BF := Lib.hid bf
  have BG := Lib.hid bg
  have HJ := Lib.hid (show Nat.blt j (row 4096 fun _ => 0).size = true by rw [row_size]; exact Nat.ble_eq_true_of_le hjn)
  have lf := Lib.hid lt1
  rw [← hW2]
  clear hW2 m1 bf bg al hsz hHeld hne2 hne3 c0 c1 ck' HMK fz fz3 hkeep
  go_wp2_with (first
 | (refine Step.store BG.out rfl rfl rfl rfl rfl pl_u8 rfl HJ.out ?_; intro w1 n2 m; have N2 := Lib.hid n2; have M := Lib.hid m; clear n2 m))
  go_end0
  have lf' := lf.out
  refine ⟨rfl, W.heap.size, ?_, BF.out.one M.out (by omega), Nat.le_refl _, M1.out.trans_new M.out fun i hi e => by obtain rfl : i = W.heap.size := e; omega⟩
  have nb : Step.Blk w1 W.heap.size ((row 4096 fun _ => 0).setIfInBounds j (.int .u8 v)) 5 := N2.out
  rwa [row_set] at nb
end Go.Proofs.YtchpnbckgofiaaaGreat.Ref
end
section
namespace Go.Proofs.YtchpnbckgofiaaaGreat.Ref
open Go Go.RowKit Go.Proofs.YtchpnbckgofiaaaGreat.Step Go.Proofs.YtchpnbckgofiaaaGreat.Mem
set_option linter.unusedVariables false
set_option linter.unusedSimpArgs false
set_option maxRecDepth 100000
structure MemIn (W : World) (h fb : Nat) (cs : Array Value) (fs : Nat → Option (Nat × Nat)) (base : Int) (n : Nat) (mem : Nat → Int) (F : Nat → Prop) : Prop where
  hdr : Blk W h #[.int .u64 base, .int .i64 n, .slice (some ⟨fb, 0, none⟩) n n] 57
  row : Blk W fb cs 23
  csz : cs.size = n
  n_lo : 1 ≤ n
  n_hi : n ≤ 1024
  b_lo : 0 ≤ base
  b_hi : base ≤ 4503599627370496
  at_ : ∀ k, k < n → cs[k]? = some (sl (fs k))
  frame : ∀ k g c, k < n → fs k = some (g, c) → F g ∧ ∃ bs, Blk W g bs 5 ∧ 4096 ≤ bs.size ∧ ∀ j, j < 4096 → bs[j]? = some (.int .u8 (mem (k * 4096 + j)))
  none_ : ∀ k, k < n → fs k = none → ∀ j, j < 4096 → mem (k * 4096 + j) = 0
  inj : ∀ k k' g c c', k < n → k' < n → fs k = some (g, c) → fs k' = some (g, c') → k = k'
  foot_h : F h
  foot_fb : F fb
  bound : ∀ k, F k → k < W.heap.size
  byte : ∀ i, i < n * 4096 → 0 ≤ mem i ∧ mem i < 256
def Mem (W : World) (h : Nat) (base : Int) (n : Nat) (mem : Nat → Int) (F : Nat → Prop) : Prop := ∃ fb cs fs, MemIn W h fb cs fs base n mem F
theorem Mem.mod {W W' : World} {h n : Nat} {base : Int} {mem : Nat → Int} {F S : Nat → Prop} (r : Mem W h base n mem F) (m : Mod S W W') (hs : ∀ k, F k → ¬ S k) : Mem W' h base n mem F := by
  obtain ⟨fb, cs, fs, r⟩ := r
  exact ⟨fb, cs, fs, { r with hdr := r.hdr.mod m (hs _ r.foot_h), row := r.row.mod m (hs _ r.foot_fb), frame := fun k g c hk hf => (by
    obtain ⟨hF, bs, hb, h2⟩ := r.frame k g c hk hf
    exact ⟨hF, bs, hb.mod m (hs _ hF), h2⟩), bound := fun k hk => Nat.lt_of_lt_of_le (r.bound k hk) m.size }⟩
theorem Mem.below {W W' : World} {h n : Nat} {base : Int} {mem : Nat → Int} {F : Nat → Prop} (r : Mem W h base n mem F) (m : Below W.heap.size W W') : Mem W' h base n mem F := r.mod (Mod.of_below m Nil) fun _ _ h => h
theorem Mem.drawn {W W' : World} {h n : Nat} {base : Int} {mem : Nat → Int} {F : Nat → Prop} (r : Mem W h base n mem F) (hw : ∃ k, W' = W.drewN k) : Mem W' h base n mem F := r.below (below_drawn hw)
theorem Mem.bound {W : World} {h n : Nat} {base : Int} {mem : Nat → Int} {F : Nat → Prop} (r : Mem W h base n mem F) : ∀ k, F k → k < W.heap.size := by obtain ⟨fb, cs, fs, r⟩ := r; exact r.bound
theorem Mem.size {W : World} {h n : Nat} {base : Int} {mem : Nat → Int} {F : Nat → Prop} (r : Mem W h base n mem F) : 1 ≤ n ∧ n ≤ 1024 ∧ 0 ≤ base ∧ base ≤ 4503599627370496 := by obtain ⟨fb, cs, fs, r⟩ := r; exact ⟨r.n_lo, r.n_hi, r.b_lo, r.b_hi⟩
theorem Mem.byte {W : World} {h n : Nat} {base : Int} {mem : Nat → Int} {F : Nat → Prop} (r : Mem W h base n mem F) {i : Nat} (hi : i < n * 4096) : 0 ≤ mem i ∧ mem i < 256 := by obtain ⟨fb, cs, fs, r⟩ := r; exact r.byte i hi
theorem Mem.more {W : World} {h n : Nat} {base : Int} {mem : Nat → Int} {F F' : Nat → Prop} (r : Mem W h base n mem F) (hF : ∀ k, F k → F' k) (hb : ∀ k, F' k → k < W.heap.size) : Mem W h base n mem F' := by
  obtain ⟨fb, cs, fs, r⟩ := r
  exact ⟨fb, cs, fs, { r with frame := fun k g c hk hf => ⟨hF _ (r.frame k g c hk hf).1, (r.frame k g c hk hf).2⟩, foot_h := hF _ r.foot_h, foot_fb := hF _ r.foot_fb, bound := hb }⟩
theorem Mem.grow {W W1 W2 : World} {h n : Nat} {base : Int} {mem : Nat → Int} {F : Nat → Prop} (r : Mem W2 h base n mem (Grow (Grow F W W1) W1 W2)) (hF : ∀ k, F k → k < W.heap.size) (h1 : W.heap.size ≤ W1.heap.size) (h2 : W1.heap.size ≤ W2.heap.size) : Mem W2 h base n mem (Grow F W W2) :=
  r.more (Grow.grow h1 h2) (Grow.bound hF (Nat.le_trans h1 h2))
theorem Mem.cells {W : World} {h n : Nat} {base : Int} {mem : Nat → Int} {F : Nat → Prop} (r : Mem W h base n mem F) : ∃ fb : Nat, W.cell? ⟨h, 0, none⟩ = some (.int .u64 base) ∧ W.cell? ⟨h, 1, none⟩ = some (.int .i64 n) ∧ W.cell? ⟨h, 2, none⟩ = some (.slice (some ⟨fb, 0, none⟩) n n) := by
  obtain ⟨fb, cs, fs, r⟩ := r
  have c0 := r.hdr.cell 0
  have c1 := r.hdr.cell 1
  have c2 := r.hdr.cell 2
  simp only [List.getElem?_toArray, List.getElem?_cons_zero, List.getElem?_cons_succ] at c0 c1 c2
  exact ⟨fb, c0, c1, c2⟩
theorem get {W : World} {h n : Nat} {base : Int} {mem : Nat → Int} {F : Nat → Prop} (r : Mem W h base n mem F) (addr : Int) (ha : base ≤ addr) (hb : addr < base + n * 4096) :
    Calls Tryz.prog 64 #[.pointer (some ⟨h, 0, none⟩), .int .u64 addr] W fun e W' => e = .returned (.int .u8 (mem (addr - base).toNat)) ∧ W = W' := by
  obtain ⟨fb', c0, _, c1⟩ := r.cells
  obtain ⟨fb, cs, fs, r⟩ := r
  obtain ⟨k, j, hk, hj, hj4, hkn, ho⟩ := offs ha hb
  have := r.n_hi
  have := r.b_hi
  have c0 := r.hdr.cell 0
  have c1 := r.hdr.cell 2
  have ck := (r.row.cell k).trans (r.at_ k hkn)
  simp only [List.getElem?_toArray, List.getElem?_cons_zero, List.getElem?_cons_succ] at c0 c1
  rw [ho]
  cases hf : fs k with
  | none =>
    rw [r.none_ k hkn hf j hj4]
    rw [hf] at ck
    exact get_nil W h fb n base addr k r.b_lo ha (by omega) hk hkn r.n_hi c0 c1 ck
  | some p =>
    obtain ⟨g, c⟩ := p
    obtain ⟨_, bs, hb, _, hbs⟩ := r.frame k g c hkn hf
    rw [hf] at ck
    exact get_frame W h fb n g c base addr _ k j r.b_lo ha (by omega) hk hj hj4 hkn r.n_hi c0 c1 ck ((hb.cell j).trans (hbs j hj4))
theorem put {W : World} {h n : Nat} {base : Int} {mem : Nat → Int} {F : Nat → Prop} (r : Mem W h base n mem F) (addr v : Int) (ha : base ≤ addr) (hb : addr < base + n * 4096) (hv : 0 ≤ v ∧ v < 256) :
    Calls Tryz.prog 51 #[.pointer (some ⟨h, 0, none⟩), .int .u64 addr, .int .u8 v] W fun e W' => e = .returned (.tuple #[]) ∧ Mem W' h base n (upd mem (addr - base).toNat v) (Grow F W W') ∧ Mod F W W' := by
  obtain ⟨fb, cs, fs, r⟩ := r
  obtain ⟨k, j, hk, hj, hj4, hkn, ho⟩ := offs ha hb
  have := r.n_hi
  have := r.b_hi
  have hne : h ≠ fb := fun e => by subst e; have := (r.hdr.inj r.row).2; revert this; decide
  have hbyte : ∀ i, i < n * 4096 → 0 ≤ upd mem (k * 4096 + j) v i ∧ upd mem (k * 4096 + j) v i < 256 := fun i hi => by
    unfold upd; split
    · exact hv
    · exact r.byte i hi
  rw [ho]
  cases hf : fs k with
  | some p =>
    obtain ⟨g, c⟩ := p
    obtain ⟨hF, bs, hb, hsz, hbs⟩ := r.frame k g c hkn hf
    have ck := r.at_ k hkn
    rw [hf] at ck
    refine (put_old W h fb n g c base addr v cs bs k j r.b_lo ha (by omega) hk hj hj4 hkn r.n_hi r.hdr r.row ck hb hsz).mono ?_
    rintro e W' ⟨rfl, hb', m⟩
    have gh : h ≠ g := fun e => by subst e; have := (r.hdr.inj hb).2; revert this; decide
    have gf : fb ≠ g := fun e => by subst e; have := (r.row.inj hb).2; revert this; decide
    refine ⟨rfl, ⟨fb, cs, fs, ?_⟩, m.mono fun i _ e => by obtain rfl : i = g := e; exact hF⟩
    refine { hdr := r.hdr.one m gh, row := r.row.one m gf, csz := r.csz, n_lo := r.n_lo, n_hi := r.n_hi, b_lo := r.b_lo, b_hi := r.b_hi, at_ := r.at_, frame := fun k' g' c' hk' hf' => ?_, none_ := fun k' hk' hf' j' hj' => ?_, inj := r.inj, foot_h := .inl r.foot_h, foot_fb := .inl r.foot_fb, bound := Grow.bound r.bound m.size, byte := hbyte }
    · obtain ⟨hF', bs', hb2, hsz', hbs'⟩ := r.frame k' g' c' hk' hf'
      refine ⟨.inl hF', ?_⟩
      by_cases e : g' = g
      · subst e
        obtain rfl := r.inj k' k g' c' c hk' hkn hf' hf
        refine ⟨_, hb', by simpa using hsz, fun j' hj' => ?_⟩
        unfold upd
        by_cases ej : j = j'
        · subst ej; rw [if_pos rfl]; simp [show j < bs.size by omega]
        · rw [if_neg (by omega), Array.getElem?_setIfInBounds_ne ej]; exact hbs j' hj'
      · refine ⟨bs', hb2.one m e, hsz', fun j' hj' => ?_⟩
        have : k' ≠ k := fun ek => e (by subst ek; rw [hf] at hf'; exact (congrArg Prod.fst (Option.some.inj hf')).symm)
        unfold upd
        rw [if_neg (by omega)]; exact hbs' j' hj'
    · have : k' ≠ k := fun ek => by subst ek; rw [hf] at hf'; cases hf'
      unfold upd
      rw [if_neg (by omega)]; exact r.none_ k' hk' hf' j' hj'
  | none =>
    have ck := r.at_ k hkn
    rw [hf] at ck
    refine (put_new W h fb n base addr v cs k j r.b_lo ha (by omega) hk hj hj4 hkn r.n_hi r.hdr r.row r.csz hne ck).mono ?_
    rintro e W' ⟨rfl, g, hg, hfb, hnew, m⟩
    refine ⟨rfl, ⟨fb, cs.setIfInBounds k (.slice (some ⟨g, 0, none⟩) 4096 4096), fun i => if i = k then some (g, 4096) else fs i, ?_⟩, m.mono fun i _ e => by obtain rfl : i = fb := e; exact r.foot_fb⟩
    refine { hdr := r.hdr.one m hne, row := hfb, csz := by simpa using r.csz, n_lo := r.n_lo, n_hi := r.n_hi, b_lo := r.b_lo, b_hi := r.b_hi, at_ := fun k' hk' => ?_, frame := fun k' g' c' hk' hf' => ?_, none_ := fun k' hk' hf' j' hj' => ?_, inj := fun a b g' c c' ha hb h1 h2 => ?_, foot_h := .inl r.foot_h, foot_fb := .inl r.foot_fb, bound := Grow.bound r.bound m.size, byte := hbyte }
    · by_cases e : k = k'
      · subst e; simp [r.csz, hkn, sl]
      · rw [Array.getElem?_setIfInBounds_ne e]; simp only [if_neg (Ne.symm e)]; exact r.at_ k' hk'
    · by_cases e : k' = k
      · subst e
        simp only [if_true, Option.some.injEq, Prod.mk.injEq] at hf'
        obtain ⟨rfl, rfl⟩ := hf'
        refine ⟨.inr ⟨hnew, hg.lt⟩, _, hg, by rw [row_size]; exact Nat.le_refl _, fun j' hj' => ?_⟩
        rw [row_at _ _ hj']
        unfold upd
        by_cases ej : j = j'
        · subst ej; rw [if_pos rfl, if_pos rfl]
        · rw [if_neg (Ne.symm ej), if_neg (by omega), r.none_ k' hk' hf j' hj']
      · simp only [if_neg e] at hf'
        obtain ⟨hF', bs', hb2, hsz', hbs'⟩ := r.frame k' g' c' hk' hf'
        have : g' ≠ fb := fun eg => by subst eg; have := (hb2.inj r.row).2; revert this; decide
        refine ⟨.inl hF', bs', hb2.one m this, hsz', fun j' hj' => ?_⟩
        unfold upd
        rw [if_neg (by omega)]; exact hbs' j' hj'
    · by_cases e : k' = k
      · simp [e] at hf'
      · simp only [if_neg e] at hf'
        unfold upd
        rw [if_neg (by omega)]; exact r.none_ k' hk' hf' j' hj'
    · have old : ∀ d c, d < n → fs d ≠ some (g, c) := fun d c hd hcg => by
        have := r.bound g (r.frame d g c hd hcg).1
        omega
      by_cases ea : a = k <;> by_cases eb : b = k
      · rw [ea, eb]
      · simp only [if_pos ea, if_neg eb, Option.some.injEq, Prod.mk.injEq] at h1 h2; obtain ⟨rfl, _⟩ := h1; exact absurd h2 (old b _ hb)
      · simp only [if_neg ea, if_pos eb, Option.some.injEq, Prod.mk.injEq] at h1 h2; obtain ⟨rfl, _⟩ := h2; exact absurd h1 (old a _ ha)
      · simp only [if_neg ea, if_neg eb] at h1 h2; exact r.inj a b g' c c' ha hb h1 h2
theorem right_any (s : Int) (w : World) : Calls Tryz.prog 63 #[.int .i64 s] w fun e w' => e = .returned (.bool (wholeB s)) ∧ w = w' := by
  by_cases h1 : s = 1
  · subst h1; go_enter Tryz.func63, Tryz.ntmps63; go_wp2; go_ret; exact ⟨rfl, rfl⟩
  by_cases h2 : s = 2
  · subst h2; go_enter Tryz.func63, Tryz.ntmps63; go_wp2; go_ret; exact ⟨rfl, rfl⟩
  by_cases h3 : s = 4
  · subst h3; go_enter Tryz.func63, Tryz.ntmps63; go_wp2; go_ret; exact ⟨rfl, rfl⟩
  by_cases h4 : s = 8
  · subst h4; go_enter Tryz.func63, Tryz.ntmps63; go_wp2; go_ret; exact ⟨rfl, rfl⟩
  have E := Lib.hid (show wholeB s = false from decide_eq_false (by omega))
  have d1 : (s == 1) = false := by simpa using h1
  have d2 : (s == 2) = false := by simpa using h2
  have d3 : (s == 4) = false := by simpa using h3
  have d4 : (s == 8) = false := by simpa using h4
  go_enter Tryz.func63, Tryz.ntmps63; go_wp2; go_ret; exact ⟨by rw [E.out]; rfl, rfl⟩
set_option maxHeartbeats 1000000 in
theorem has_any {W : World} {h n : Nat} {base : Int} {mem : Nat → Int} {F : Nat → Prop} (r : Mem W h base n mem F) (addr size : Int) (ha : 0 ≤ addr ∧ addr < 18446744073709551616) (hs : size < 9223372036854775808) :
    Calls Tryz.prog 50 #[.pointer (some ⟨h, 0, none⟩), .int .u64 addr, .int .i64 size] W fun e W' => e = .returned (.bool (hasB base n addr size)) ∧ W = W' := by
  obtain ⟨fb, c0, c1, c2⟩ := r.cells
  obtain ⟨n1, n2, b1, b2⟩ := r.size
  obtain ⟨ha1, ha2⟩ := ha
  clear r
  have hsz := Lib.hid hs
  clear hs
  by_cases h1 : size < 0
  · have E := Lib.hid (show hasB base n addr size = false from decide_eq_false (by omega))
    go_enter Tryz.func50, Tryz.ntmps50
    go_wp2
    go_ret
    exact ⟨by rw [E.out]; rfl, rfl⟩
  · have d1 : decide (size < 0) = false := by simpa using h1
    have h1' : 0 ≤ size := by omega
    clear h1
    by_cases h2 : addr < base
    · have E := Lib.hid (show hasB base n addr size = false from decide_eq_false (by omega))
      go_enter Tryz.func50, Tryz.ntmps50
      go_wp2
      go_ret
      exact ⟨by rw [E.out]; rfl, rfl⟩
    · have d2 : decide (addr < base) = false := by simpa using h2
      have h2' : base ≤ addr := by omega
      clear h2
      have hs : IntKind.u64.wrap (addr - base) = addr - base := IntWalk.u64_in _ (by omega)
      have hs0 : IntKind.u64.wrap size = size := IntWalk.u64_in _ (by have := hsz.out; omega)
      by_cases h3 : addr - base ≤ (n : Int) * 4096
      · have hs2 : IntKind.u64.wrap ((n : Int) * 4096 - (addr - base)) = (n : Int) * 4096 - (addr - base) := IntWalk.u64_in _ (by omega)
        have E := Lib.hid (show hasB base n addr size = decide (size ≤ (n : Int) * 4096 - (addr - base)) from decide_eq_decide.2 (by omega))
        go_enter Tryz.func50, Tryz.ntmps50
        go_wp2
        go_ret
        exact ⟨by rw [E.out]; rfl, rfl⟩
      · have d3 : decide (addr - base ≤ (n : Int) * 4096) = false := by simpa using h3
        have h3' : (n : Int) * 4096 < addr - base := by omega
        clear h3
        have E := Lib.hid (show hasB base n addr size = false from decide_eq_false (by omega))
        go_enter Tryz.func50, Tryz.ntmps50
        go_wp2
        go_ret
        exact ⟨by rw [E.out]; rfl, rfl⟩
end Go.Proofs.YtchpnbckgofiaaaGreat.Ref
end
section
namespace Go.Proofs.YtchpnbckgofiaaaGreat.Ref
open Go Go.RowKit Go.Proofs.YtchpnbckgofiaaaGreat.Step Go.Proofs.YtchpnbckgofiaaaGreat.Mem
set_option linter.unusedVariables false
set_option linter.unusedSimpArgs false
set_option maxRecDepth 100000
theorem pow_small' {s : Nat} (hs : s ≤ 7) : (256 : Int) ^ s ≤ 72057594037927936 := pow_small s hs
set_option maxHeartbeats 1000000 in
theorem read_yes {W : World} {h n : Nat} {base : Int} {mem : Nat → Int} {F : Nat → Prop} (r : Mem W h base n mem F) (addr : Int) (s : Nat) (ha : 0 ≤ addr ∧ addr < 18446744073709551616) (h1 : wholeB s = true) (h2 : hasB base n addr s = true) :
    Calls Tryz.prog 36 #[.pointer (some ⟨h, 0, none⟩), .int .u64 addr, .int .i64 s] W fun e W' => e = .returned (.tuple #[.int .u64 (num mem (addr - base).toNat s), .bool true]) ∧ W = W' := by
  have hs : s ≤ 8 := by have := of_decide_eq_true h1; omega
  obtain ⟨hh1, hh2, hh3⟩ := of_decide_eq_true h2
  have T1 := Lib.hid (fun w => (right_any s w).mono fun e w' h => (by rw [h1] at h; exact h : e = .returned (.bool true) ∧ w = w'))
  have hs9 : (s : Int) < 9223372036854775808 := by omega
  have T2 := Lib.hid ((has_any r addr s ha hs9).mono fun e w' h => (by rw [h2] at h; exact h : e = .returned (.bool true) ∧ W = w'))
  have R := Lib.hid r
  obtain ⟨ha1, ha2⟩ := ha
  obtain ⟨n1, n2, b1, b2⟩ := r.size
  clear h1 h2 r hs9
  go_enter Tryz.func36, Tryz.ntmps36
  go_wp2_with (first
 | (go_at_call 63; refine (T1.out _).mono ?_; rintro e w1 ⟨rfl, rfl⟩)
 | (go_at_call 50; refine (T2.out).mono ?_; rintro e w1 ⟨rfl, rfl⟩))
  go_loop [8, 9] (fun v i => ∃ k : Nat, k ≤ s ∧ i = .int .i64 ((k : Int) - 1) ∧ v = .int .u64 (num mem ((addr - base).toNat + k) (s - k))) (fun _ i => (intOf i + 1).toNat)
  case atStart => exact ⟨s, Nat.le_refl _, rfl, by rw [Nat.sub_self]; rfl⟩
  case round =>
    obtain ⟨k, hk, rfl, rfl⟩ := hrel
    cases k with
    | zero =>
      go_wp2
      refine bodyPost_ret (results_tmp2 rfl _ _ _) rfl ⟨rfl, rfl⟩
    | succ k =>
      have T3 := Lib.hid (get R.out (addr + k) (by omega) (by omega))
      have hb : ∀ i, (addr - base).toNat ≤ i → i < (addr - base).toNat + s → 0 ≤ mem i ∧ mem i < 256 := fun i hi1 hi2 => R.out.byte (by omega)
      have h1 := num_range (s - (k + 1)) ((addr - base).toNat + (k + 1)) fun i a b => hb i (by omega) (by omega)
      have h2 := pow_small' (s := s - (k + 1)) (by omega)
      have h3 := hb ((addr - base).toNat + k) (by omega) (by omega)
      have e1 : (addr + (k : Int) - base).toNat = (addr - base).toNat + k := by omega
      have w1 : IntKind.u64.wrap (num mem ((addr - base).toNat + (k + 1)) (s - (k + 1)) * 256) = num mem ((addr - base).toNat + (k + 1)) (s - (k + 1)) * 256 := IntWalk.u64_in _ (by omega)
      have w2 : IntKind.u64.wrap (mem (addr + (k : Int) - base).toNat) = mem (addr + (k : Int) - base).toNat := by rw [e1]; exact IntWalk.u64_in _ (by omega)
      have w3 : IntKind.u64.wrap (num mem ((addr - base).toNat + (k + 1)) (s - (k + 1)) * 256 + mem (addr + (k : Int) - base).toNat) = num mem ((addr - base).toNat + (k + 1)) (s - (k + 1)) * 256 + mem (addr + (k : Int) - base).toNat := by rw [e1]; exact IntWalk.u64_in _ (by omega)
      have E := Lib.hid e1
      clear h1 h2 h3 e1 hb
      go_wp2_with (go_at_call 64; refine (T3.out).mono ?_; rintro e w2 ⟨rfl, rfl⟩)
      refine ⟨⟨k, by omega, rfl, ?_⟩, by simp [intOf]⟩
      rw [E.out, show s - k = s - (k + 1) + 1 by omega]
      simp only [num, Value.int.injEq, true_and]
      rw [show (addr - base).toNat + (k + 1) = (addr - base).toNat + k + 1 by omega]; omega
set_option maxHeartbeats 1000000 in
theorem read_no {W : World} {h n : Nat} {base : Int} {mem : Nat → Int} {F : Nat → Prop} (r : Mem W h base n mem F) (addr s : Int) (ha : 0 ≤ addr ∧ addr < 18446744073709551616) (hs9 : s < 9223372036854775808) (h1 : (wholeB s && hasB base n addr s) = false) :
    Calls Tryz.prog 36 #[.pointer (some ⟨h, 0, none⟩), .int .u64 addr, .int .i64 s] W fun e W' => e = .returned (.tuple #[.int .u64 0, .bool false]) ∧ W = W' := by
  cases h2 : wholeB s with
  | false =>
    have T1 := Lib.hid (fun w => (right_any s w).mono fun e w' h => (by rw [h2] at h; exact h : e = .returned (.bool false) ∧ w = w'))
    clear h1 h2 r
    go_enter Tryz.func36, Tryz.ntmps36
    go_wp2_with (first
 | (go_at_call 63; refine (T1.out _).mono ?_; rintro e w1 ⟨rfl, rfl⟩))
    refine bodyPost_ret (results_tmp2 rfl _ _ _) rfl ⟨rfl, rfl⟩
  | true =>
    have h3 : hasB base n addr s = false := by rw [h2] at h1; exact h1
    have T1 := Lib.hid (fun w => (right_any s w).mono fun e w' h => (by rw [h2] at h; exact h : e = .returned (.bool true) ∧ w = w'))
    have T2 := Lib.hid ((has_any r addr s ha hs9).mono fun e w' h => (by rw [h3] at h; exact h : e = .returned (.bool false) ∧ W = w'))
    clear h1 h2 h3 r
    go_enter Tryz.func36, Tryz.ntmps36
    go_wp2_with (first
 | (go_at_call 63; refine (T1.out _).mono ?_; rintro e w1 ⟨rfl, rfl⟩)
 | (go_at_call 50; refine (T2.out).mono ?_; rintro e w1 ⟨rfl, rfl⟩))
    refine bodyPost_ret (results_tmp2 rfl _ _ _) rfl ⟨rfl, rfl⟩
theorem mod_grow' {F : Nat → Prop} {W W1 W2 : World} (h : Mod F W W1) (k : Mod (Grow F W W1) W1 W2) : Mod F W W2 := Mem.mod_grow h k
set_option maxHeartbeats 1000000 in
theorem write_yes {W : World} {h n : Nat} {base : Int} {mem : Nat → Int} {F : Nat → Prop} (r : Mem W h base n mem F) (addr v : Int) (s : Nat) (ha : 0 ≤ addr ∧ addr < 18446744073709551616) (hv : 0 ≤ v ∧ v < 18446744073709551616) (h1 : wholeB s = true) (h2 : hasB base n addr s = true) :
    Calls Tryz.prog 48 #[.pointer (some ⟨h, 0, none⟩), .int .u64 addr, .int .i64 s, .int .u64 v] W fun e W' => e = .returned (.bool true) ∧ Mem W' h base n (wr mem (addr - base).toNat s v) (Grow F W W') ∧ Mod F W W' := by
  have hs : s ≤ 8 := by have := of_decide_eq_true h1; omega
  obtain ⟨hh1, hh2, hh3⟩ := of_decide_eq_true h2
  have T1 := Lib.hid (fun w => (right_any s w).mono fun e w' h => (by rw [h1] at h; exact h : e = .returned (.bool true) ∧ w = w'))
  have hs9 : (s : Int) < 9223372036854775808 := by omega
  have T2 := Lib.hid ((has_any r addr s ha hs9).mono fun e w' h => (by rw [h2] at h; exact h : e = .returned (.bool true) ∧ W = w'))
  have R := Lib.hid r
  obtain ⟨ha1, ha2⟩ := ha
  obtain ⟨n1, n2, b1, b2⟩ := r.size
  have HV := Lib.hid hv
  clear h1 h2 r hs9 hv
  go_enter Tryz.func48, Tryz.ntmps48
  go_wp2_with (first
 | (go_at_call 63; refine (T1.out _).mono ?_; rintro e w1 ⟨rfl, rfl⟩)
 | (go_at_call 50; refine (T2.out).mono ?_; rintro e w1 ⟨rfl, rfl⟩))
  go_loopw [3, 9] (fun x i W1 => ∃ k : Nat, k ≤ s ∧ i = .int .i64 k ∧ x = .int .u64 (v / 256 ^ k) ∧ Mem W1 h base n (wr mem (addr - base).toNat k v) (Grow F W W1) ∧ Mod F W W1) (fun _ i _ => (s - intOf i).toNat)
  case atStart =>
    refine ⟨0, Nat.zero_le _, rfl, by rw [Int.pow_zero, Int.ediv_one], ?_, Mod.refl _ _⟩
    rw [wr_zero]; exact R.out.more (fun k hk => .inl hk) (Grow.bound R.out.bound (Nat.le_refl _))
  case round =>
    obtain ⟨k, hk, rfl, rfl, hR, hM⟩ := hrel
    have hv0 : 0 ≤ v / 256 ^ k := Int.ediv_nonneg HV.out.1 (Int.pow_nonneg (by decide))
    have hv1 : v / 256 ^ k < 18446744073709551616 := Int.lt_of_le_of_lt (Int.ediv_le_self _ HV.out.1) HV.out.2
    by_cases hlt : k < s
    · have T3 := Lib.hid (put hR (addr + k) (v / 256 ^ k % 256) (by omega) (by omega) (by omega))
      have hsz := Lib.hid hM.size
      have HM := Lib.hid hM
      have w2 : IntKind.u8.wrap (v / 256 ^ k % 256) = v / 256 ^ k % 256 := IntWalk.u8_in _ (by omega)
      clear hR hM
      go_wp2_with (go_at_call 51; refine (T3.out).mono ?_; rintro e w2 ⟨rfl, hR, hM⟩; have HR2 := Lib.hid hR; have HM2 := Lib.hid hM; clear hR hM)
      refine ⟨⟨k + 1, by omega, by go_num, ?_, ?_, mod_grow' HM.out HM2.out⟩, by simp [intOf]; omega⟩
      · rw [Int.pow_succ, ← Int.ediv_ediv_of_nonneg (Int.pow_nonneg (by decide))]
      · have := (HR2.out.grow R.out.bound hsz.out HM2.out.size)
        rw [show (addr + (k : Int) - base).toNat = (addr - base).toNat + k by omega, wr_succ] at this
        exact this
    · obtain rfl : k = s := by omega
      have HR := Lib.hid hR
      have HM := Lib.hid hM
      clear hR hM
      go_wp2
      go_ret
      exact ⟨rfl, HR.out, HM.out⟩
end Go.Proofs.YtchpnbckgofiaaaGreat.Ref
end
section
namespace Go.Proofs.YtchpnbckgofiaaaGreat.Ref
open Go Go.RowKit Go.Proofs.YtchpnbckgofiaaaGreat.Step Go.Proofs.YtchpnbckgofiaaaGreat.Mem
set_option linter.unusedVariables false
set_option linter.unusedSimpArgs false
set_option maxRecDepth 100000
set_option maxHeartbeats 1000000 in
theorem zero_any {W : World} {A : Option Addr} {c : Nat} {G : Nat → Prop} (r : Rd W A 4096 (fun _ => 0) G) :
    Calls Tryz.prog 21 #[.slice A 4096 c] W fun e W' => e = .returned (.bool true) ∧ W = W' := by
  have R := Lib.hid r
  clear r
  go_enter Tryz.func21, Tryz.ntmps21
  go_wp2
  go_loop [3] (fun i => ∃ k : Nat, k ≤ 4096 ∧ i = .int .i64 k) (fun i => (4096 - intOf i).toNat)
  case atStart => exact ⟨0, by omega, rfl⟩
  case round =>
    obtain ⟨k, hk, rfl⟩ := hrel
    by_cases hlt : k < 4096
    · obtain ⟨ad, rfl, _, hc, _⟩ := R.out k hlt
      go_wp2
      exact ⟨⟨k + 1, by omega, by go_num⟩, by simp [intOf]; omega⟩
    · obtain rfl : k = 4096 := by omega
      go_wp2
      go_ret
      exact ⟨rfl, rfl⟩
end Go.Proofs.YtchpnbckgofiaaaGreat.Ref
end
section
namespace Go.Proofs.YtchpnbckgofiaaaGreat.Ref
open Go Go.RowKit Go.Proofs.YtchpnbckgofiaaaGreat.Step Go.Proofs.YtchpnbckgofiaaaGreat.Mem
set_option linter.unusedVariables false
set_option linter.unusedSimpArgs false
set_option maxRecDepth 100000
theorem rd_cells {W : World} {g n : Nat} {cur : Array Value} {f : Nat → Int} {G : Nat → Prop} (b : Blk W g cur 5) (hG : G g) (hc : ∀ k, k < n → cur[k]? = some (.int .u8 (f k))) (hf : ∀ k, k < n → 0 ≤ f k ∧ f k < 256) : Rd W (some ⟨g, 0, none⟩) n f G := fun k hk => by
  refine ⟨_, rfl, hG, ?_, hf k hk⟩
  have : (⟨g, 0, none⟩ : Addr).add k = ⟨g, k, none⟩ := by unfold Addr.add; split <;> simp_all
  rw [this]
  exact (b.cell k).trans (hc k hk)
set_option maxHeartbeats 400000 in
theorem same_two {W : World} {h h2 n : Nat} {base : Int} {mem : Nat → Int} {F1 F2 : Nat → Prop} (r1 : Ram W h base n mem F1) (r2 : Mem W h2 base n mem F2) :
    Calls Tryz.prog 7 #[.agg #[.pointer (some ⟨h, 0, none⟩), .pointer (some ⟨h2, 0, none⟩)]] W fun e W' => e = .returned (.bool true) ∧ Below W.heap.size W W' := by
  obtain ⟨n1, n2, b1, b2⟩ := r2.size
  have R1 := Lib.hid r1
  have R2 := Lib.hid r2
  have hu62 := Tryz.underlying33
  clear r1 r2
  go_enter Tryz.func7, Tryz.ntmps7
  go_wp2
  obtain ⟨W0, hW0⟩ : ∃ W0, W0 = W.alloc (.cells #[.pointer (some ⟨h, 0, none⟩), .pointer (some ⟨h2, 0, none⟩)] 33 (0, 0)) := ⟨_, rfl⟩
  have B0 := Lib.hid (show Blk W0 W.heap.size #[.pointer (some ⟨h, 0, none⟩), .pointer (some ⟨h2, 0, none⟩)] 33 by rw [hW0]; exact alloc_out _ _ _)
  have BL := Lib.hid (show Below W.heap.size W W0 by rw [hW0]; exact alloc_below _ _)
  have Q1 := Lib.hid (R1.out.below BL.out)
  have Q2 := Lib.hid (R2.out.below BL.out)
  rw [← hW0]
  clear hW0
  go_loopw [3, 4, 5] (fun i a b w => ∃ k : Nat, k ≤ n ∧ i = .int .i64 k ∧ Below W0.heap.size W0 w) (fun i _ _ _ => (n - intOf i).toNat)
  case atStart => exact ⟨0, Nat.zero_le _, rfl, Below.refl _ _⟩
  case round =>
    obtain ⟨k, hk, rfl, hb⟩ := hrel
    have HB := Lib.hid hb
    have QK1 := Lib.hid (Q1.out.below hb)
    have BK := Lib.hid (B0.out.below hb)
    obtain ⟨fb, cs, fs, q⟩ := Q2.out.below hb
    have g0 := BK.out.cell 0
    have g1 := BK.out.cell 1
    have m0 := q.hdr.cell 0
    have m1 := q.hdr.cell 1
    have m2 := q.hdr.cell 2
    simp only [List.getElem?_toArray, List.getElem?_cons_zero, List.getElem?_cons_succ] at g0 g1 m0 m1 m2
    have lg := BK.out.lt
    have lh2 := q.hdr.lt
    by_cases hlt : k < n
    · have T := Lib.hid (fun w (hw : Below wr.heap.size wr w) => bytes_z (QK1.out.below hw) (base + k * 4096) 4096 4096 rfl (by omega) (by omega) (decide_eq_true (by omega)))
      have w1 : IntKind.u64.wrap (base + (k : Int) * 4096) = base + k * 4096 := IntWalk.u64_in _ (by omega)
      have w2 : IntKind.u64.wrap (k : Int) = k := IntWalk.u64_in _ (by omega)
      have w3 : IntKind.u64.wrap ((k : Int) * 4096) = k * 4096 := IntWalk.u64_in _ (by omega)
      have QQ := Lib.hid q
      clear hb q
      go_wp2
      go_region_held3 (fun w' => w'.cell? ⟨W.heap.size, 0, none⟩ = some (.pointer (some ⟨h, 0, none⟩)) ∧ w'.cell? ⟨W.heap.size, 1, none⟩ = some (.pointer (some ⟨h2, 0, none⟩)) ∧ w'.cell? ⟨h2, 0, none⟩ = some (.int .u64 base))
        (first
          | (go_keep; done)
          | exact ⟨(hbb.cell (p := ⟨W.heap.size, 0, none⟩) lg).trans g0, (hbb.cell (p := ⟨W.heap.size, 1, none⟩) lg).trans g1, (hbb.cell (p := ⟨h2, 0, none⟩) lh2).trans m0⟩)
        (((with_reducible refine (T.out _ (Below.drew (Below.refl _ _))).mono ?_); rintro e w9 ⟨g, rfl, bx, hg, hbb⟩))
      rename_i hHeld
      have HBB := Lib.hid (⟨hbb.os, hbb.tape, hbb.output, hbb.size, hbb.block⟩ : Below wr.heap.size wr w9)
      have BX := Lib.hid bx
      have g1' := (hbb.cell (p := ⟨W.heap.size, 1, none⟩) lg).trans g1
      have m2' := (hbb.cell (p := ⟨h2, 2, none⟩) lh2).trans m2
      have m1' := (hbb.cell (p := ⟨h2, 1, none⟩) lh2).trans m1
      have row9 := QQ.out.row.below (⟨hbb.os, hbb.tape, hbb.output, hbb.size, hbb.block⟩ : Below wr.heap.size wr w9)
      have ck := (row9.cell k).trans (QQ.out.at_ k hlt)
      have e1 := eql_nil
      have e2 := eql_some
      have o1 : (base + (k : Int) * 4096 - base).toNat = k * 4096 := by omega
      cases hf : fs k with
      | none =>
        rw [hf] at ck
        simp only [sl] at ck
        have ZR := Lib.hid (zero_any (c := 4096) ((rd_row (G := fun _ => True) BX.out trivial (fun j hj => by rw [o1]; exact QK1.out.byte (by omega))).congr (fun j hj => by rw [o1]; exact QQ.out.none_ k hlt hf j hj)))
        clear hHeld hbb bx g0 g1 m0 m1 m2 row9 hf o1
        go_wp2_with (go_at_call 21; refine (ZR.out).mono ?_; rintro e w10 ⟨rfl, rfl⟩)
        exact ⟨⟨k + 1, by omega, by go_num, HB.out.trans (HBB.out.mono HB.out.size)⟩, by simp [intOf]; omega⟩
      | some p =>
        obtain ⟨gf, c⟩ := p
        rw [hf] at ck
        simp only [sl] at ck
        obtain ⟨_, bs, hgf, hsz, hbs⟩ := QQ.out.frame k gf c hlt hf
        have SM := Lib.hid (same_any (n := 4096) (ca := 4096) (cb := c) ((rd_row (G := fun _ => True) BX.out trivial (fun j hj => by rw [o1]; exact QK1.out.byte (by omega))).congr (fun j hj => by rw [o1])) (rd_cells (G := fun _ => True) (f := fun j => mem (k * 4096 + j)) (hgf.below (⟨hbb.os, hbb.tape, hbb.output, hbb.size, hbb.block⟩ : Below wr.heap.size wr w9)) trivial hbs (fun j hj => QK1.out.byte (by omega))) (by omega))
        clear hHeld hbb bx g0 g1 m0 m1 m2 row9 hf o1 hgf hbs hsz
        go_wp2_with (go_at_call 22; refine (SM.out).mono ?_; rintro e w10 ⟨rfl, hw⟩; have HD := Lib.hid (below_drawn hw); clear hw)
        exact ⟨⟨k + 1, by omega, by go_num, (HB.out.trans (HBB.out.mono HB.out.size)).trans (HD.out.mono (Nat.le_trans HB.out.size HBB.out.size))⟩, by simp [intOf]; omega⟩
    · obtain rfl : k = n := by omega
      clear hb q
      go_wp2
      go_ret
      exact ⟨rfl, BL.out.trans (HB.out.mono BL.out.size)⟩
end Go.Proofs.YtchpnbckgofiaaaGreat.Ref
end
section
namespace Go.Proofs.YtchpnbckgofiaaaGreat.Ref
open Go Go.RowKit Go.Proofs.YtchpnbckgofiaaaGreat.Step Go.Proofs.YtchpnbckgofiaaaGreat.Mem
set_option linter.unusedVariables false
set_option linter.unusedSimpArgs false
set_option maxRecDepth 100000
theorem mk_rows : (Tryz.prog.info? 23).map (fun i => (i.size, i.bytes, i.zero)) = some (1, 24, some (.slice none 0 0)) := by kernel_rfl
set_option maxHeartbeats 1000000 in
theorem new_yes (W : World) (base : Int) (n : Nat) (hb : 0 ≤ base ∧ base < 18446744073709551616) (h : newB base n = true) :
    Calls Tryz.prog 25 #[.int .u64 base, .int .i64 n] W fun e W' => ∃ h, e = .returned (.tuple #[.pointer (some ⟨h, 0, none⟩), .int .i64 0]) ∧ Mem W' h base n (fun _ => 0) (Grow Nil W W') ∧ Mod Nil W W' := by
  obtain ⟨h1, h2, h3, h4⟩ := of_decide_eq_true h
  obtain ⟨b1, b2⟩ := hb
  clear h
  have d1 : decide ((n : Int) < 1) = false := by simpa using h1
  have d2 : decide (1024 < (n : Int)) = false := by simpa using h2
  have d4 : decide (4503599627370496 < base) = false := by simpa using h4
  have HN := Lib.hid (show 24 * n ≤ 281474976710656 by omega)
  have HN2 := Lib.hid (show n ≤ 9223372036854775807 by omega)
  have HB := Lib.hid (⟨h1, h2, h4, b1⟩ : (1 ≤ (n : Int)) ∧ (n : Int) ≤ 1024 ∧ base ≤ 4503599627370496 ∧ 0 ≤ base)
  have hu66 := Tryz.underlying57
  clear h1 h2 h4 b2
  go_enter Tryz.func25, Tryz.ntmps25
  go_wp2_with (first
 | (refine Step.make (t := 55) rfl rfl rfl rfl Tryz.underlying55 mk_rows rfl HN.out HN2.out ?_; intro g w1 b hg hb; have B1 := Lib.hid b; have HG := Lib.hid hg; have HM := Lib.hid hb; clear b hg hb)
 | ((with_reducible refine Step.gate_box (t := 57) rfl ?_); refine Step.fresh (cs := #[.int .u64 base, .int .i64 n, .slice (some ⟨g, 0, none⟩) n n]) (T := 57) rfl ?hr ?_; (case hr => first | (go_simp; done) | (go_simp; rfl)); intro g2 w2 b hg hb; have B2 := Lib.hid b; have B3 := Lib.hid (B1.out.below hb); have HG2 := Lib.hid hg; have HM2 := Lib.hid hb; clear b hg hb))
  refine bodyPost_ret (results_tmp2 rfl _ _ _) rfl ⟨g2, rfl, ?_, Mod.of_below (below_below HM.out (HM2.out)) Nil⟩
  obtain ⟨hn1, hn2, hb1, hb2⟩ := HB.out
  have s1 := HG.out
  have s2 := HG2.out
  have l1 := B1.out.lt
  have l2 := B2.out.lt
  have l3 := B3.out.lt
  refine ⟨g, Array.replicate n (.slice none 0 0), fun _ => none, ?_⟩
  exact { hdr := B2.out, row := B3.out, csz := by simp, n_lo := by omega, n_hi := by omega, b_lo := hb2, b_hi := hb1, at_ := fun k hk => by simp [hk, sl], frame := fun k g c hk hf => (by cases hf), none_ := fun k hk hf j hj => rfl, inj := fun k k' g c c' hk hk' h1 h2 => (by cases h1), foot_h := .inr ⟨by omega, l2⟩, foot_fb := .inr ⟨s1, l3⟩, bound := fun k hk => hk.elim (fun h => h.elim) (fun h => h.2), byte := fun i hi => by decide }
set_option maxHeartbeats 1000000 in
theorem fill_yes {W : World} {h n : Nat} {base : Int} {mem : Nat → Int} {F G : Nat → Prop} (r : Mem W h base n mem F) (addr : Int) {A : Option Addr} {s c : Nat} {f : Nat → Int} (rb : Rd W A s f G) (hG : ∀ k, G k → ¬ F k ∧ k < W.heap.size) (ha : 0 ≤ addr ∧ addr < 18446744073709551616) (h2 : hasB base n addr s = true) :
    Calls Tryz.prog 29 #[.pointer (some ⟨h, 0, none⟩), .int .u64 addr, .slice A s c] W fun e W' => e = .returned (.bool true) ∧ Mem W' h base n (fl mem (addr - base).toNat s f) (Grow F W W') ∧ Mod F W W' := by
  obtain ⟨hh1, hh2, hh3⟩ := of_decide_eq_true h2
  obtain ⟨n1, n2, b1, b2⟩ := r.size
  have hs9 : (s : Int) < 9223372036854775808 := by omega
  have T2 := Lib.hid ((has_any r addr s ha hs9).mono fun e w' h => (by rw [h2] at h; exact h : e = .returned (.bool true) ∧ W = w'))
  have R := Lib.hid r
  have RB := Lib.hid rb
  have HG := Lib.hid hG
  obtain ⟨ha1, ha2⟩ := ha
  have s1 : s ≤ 4194304 := by omega
  clear h2 r hs9 rb hG
  go_enter Tryz.func29, Tryz.ntmps29
  go_wp2_with (first
 | (go_at_call 50; refine (T2.out).mono ?_; rintro e w1 ⟨rfl, rfl⟩))
  go_loopw [7] (fun i W1 => ∃ k : Nat, k ≤ s ∧ i = .int .i64 k ∧ Mem W1 h base n (fl mem (addr - base).toNat k f) (Grow F W W1) ∧ Mod F W W1) (fun i _ => (s - intOf i).toNat)
  case atStart =>
    refine ⟨0, Nat.zero_le _, rfl, ?_, Mod.refl _ _⟩
    rw [fl_zero]; exact R.out.more (fun k hk => .inl hk) (Grow.bound R.out.bound (Nat.le_refl _))
  case round =>
    obtain ⟨k, hk, rfl, hR, hM⟩ := hrel
    by_cases hlt : k < s
    · obtain ⟨ad, rfl, _, hc, hf⟩ := (RB.out.mod hM (fun i hi => (HG.out i hi).1) (fun i hi => (HG.out i hi).2)) k hlt
      have T3 := Lib.hid (put hR (addr + k) (f k) (by omega) (by omega) hf)
      have hsz := Lib.hid hM.size
      have HM := Lib.hid hM
      clear hR hM hf
      go_wp2_with (go_at_call 51; refine (T3.out).mono ?_; rintro e w2 ⟨rfl, hR, hM⟩; have HR2 := Lib.hid hR; have HM2 := Lib.hid hM; clear hR hM)
      refine ⟨⟨k + 1, by omega, by go_num, ?_, mod_grow' HM.out HM2.out⟩, by simp [intOf]; omega⟩
      have := (HR2.out.grow R.out.bound hsz.out HM2.out.size)
      rw [show (addr + (k : Int) - base).toNat = (addr - base).toNat + k by omega, fl_succ] at this
      exact this
    · obtain rfl : k = s := by omega
      have HR := Lib.hid hR
      have HM := Lib.hid hM
      clear hR hM
      go_wp2
      go_ret
      exact ⟨rfl, HR.out, HM.out⟩
end Go.Proofs.YtchpnbckgofiaaaGreat.Ref
end
section
namespace Go.Proofs.YtchpnbckgofiaaaGreat
open Go Go.RowKit Go.ChangeShapes Go.WideShapes Go.ChangeAt
set_option linter.unusedVariables false
/-- A slice's numbers, in blocks of G. -/
def RdI (k : IntKind) (W : World) (A : Option Addr) (n : Nat) (f : Nat → Int) (G : Nat → Prop) : Prop := ∀ i, i < n → ∃ ad, A = some ad ∧ G ad.block ∧ W.cell? (ad.add i) = some (.int k (f i)) ∧ (Lit.int k (f i)).wf = true
theorem open_rd {H : Type} {enc : TypeId × Value → H} {P : Program} {W : World} {base : Nat} {sp : Nat → Bool} {held : Bool} {t e : TypeId} {k : IntKind} {A : Option Addr} {n c : Nat} {d : DataW H} {ps : List MemPlace}
    (ht : P.underlying t = some (.slice e)) (he : P.underlying e = some (.int k)) (hc : P.cellsOf e = 1) (h : DataW.Trod enc P W base sp held t (.slice A n c) d ps) : ∃ f, RdI k W A n f (· < W.heap.size) ∧ n ≤ 9223372036854775807 := by
  obtain ⟨fuel, hf⟩ := h
  rcases open_ints ht he hc hf with ⟨hcs, _⟩ | ⟨x, l, c', zs, hcs, _, hl, hm, hz, _, hcell, hwz⟩
  · simp [Value.cells] at hcs
    obtain ⟨rfl, rfl, rfl⟩ := hcs
    exact ⟨fun _ => 0, fun i hi => by omega, by omega⟩
  · simp [Value.cells] at hcs
    obtain ⟨rfl, rfl, rfl⟩ := hcs
    have hln : n ≤ zs.length := by rw [hz]; split <;> omega
    refine ⟨fun i => zs.getD i 0, fun i hi => ⟨x, rfl, ?_, hcell i (by omega), hwz _ ?_⟩, ?_⟩
    · have := World.block_lt_of_cell? W _ (hcell i (by omega))
      have hb : (x.add i).block = x.block := by unfold Addr.add; split <;> rfl
      rwa [hb] at this
    · show zs.getD i 0 ∈ zs
      rw [List.getD_eq_getElem?_getD, List.getElem?_eq_getElem (by omega)]; exact List.getElem_mem _
    · unfold maxLen at hm; omega
end Go.Proofs.YtchpnbckgofiaaaGreat
end
section
namespace Go.Proofs.YtchpnbckgofiaaaGreat.Duo
open Go Go.RowKit Go.Proofs.YtchpnbckgofiaaaGreat.Step Go.Proofs.YtchpnbckgofiaaaGreat.Mem
set_option linter.unusedVariables false
set_option linter.unusedSimpArgs false
set_option maxRecDepth 100000
/-- A memory and the document's, of one content, in blocks newer than W. -/
structure Duo (W w : World) (h1 h2 : Nat) (base : Int) (n : Nat) (mem : Nat → Int) (F1 F2 : Nat → Prop) : Prop where
  one : Ram w h1 base n mem F1
  two : Ref.Mem w h2 base n mem F2
  apart : ∀ k, F1 k → ¬ F2 k
  new : ∀ k, F1 k ∨ F2 k → W.heap.size ≤ k
  mod : Mod Nil W w
section
variable {W w w' : World} {h1 h2 n : Nat} {base : Int} {mem mem' : Nat → Int} {F1 F2 S : Nat → Prop}
theorem Duo.below (d : Duo W w h1 h2 base n mem F1 F2) (b : Below w.heap.size w w') : Duo W w' h1 h2 base n mem F1 F2 :=
  ⟨d.one.below b, d.two.below b, d.apart, d.new, d.mod.trans (Mod.of_below b Nil)⟩
theorem Duo.drawn (d : Duo W w h1 h2 base n mem F1 F2) (b : ∃ k, w' = w.drewN k) : Duo W w' h1 h2 base n mem F1 F2 := d.below (below_drawn b)
theorem Duo.out (d : Duo W w h1 h2 base n mem F1 F2) : Below W.heap.size W w := d.mod.below
/-- Something newer beside them is turned. -/
theorem Duo.other (d : Duo W w h1 h2 base n mem F1 F2) (m : Mod S w w') (hs : ∀ k, F1 k ∨ F2 k → ¬ S k) (hn : ∀ k, S k → W.heap.size ≤ k) : Duo W w' h1 h2 base n mem F1 F2 :=
  ⟨d.one.mod m fun k h => hs k (.inl h), d.two.mod m fun k h => hs k (.inr h), d.apart, d.new, d.mod.trans_new m fun i hi h => by have := hn i h; omega⟩
theorem Duo.bound (d : Duo W w h1 h2 base n mem F1 F2) : ∀ k, F1 k ∨ F2 k → k < w.heap.size := fun k h => h.elim (d.one.bound k) (d.two.bound k)
theorem Duo.made {w1 w2 : World} (m0 : Mod Nil W w) (r1 : Ram w1 h1 base n mem (Grow Nil w w1)) (m1 : Mod Nil w w1) (r2 : Ref.Mem w2 h2 base n mem (Grow Nil w1 w2)) (m2 : Mod Nil w1 w2) : Duo W w2 h1 h2 base n mem (Grow Nil w w1) (Grow Nil w1 w2) :=
  ⟨r1.mod m2 (fun _ _ h => h), r2, fun k h1 h2 => by
      have := r1.bound k h1
      rcases h2 with h2 | h2
      · exact h2
      · omega, fun k h => by
      have := m0.size
      have := m1.size
      rcases h with (h | h) | (h | h)
      · exact h.elim
      · omega
      · exact h.elim
      · omega, (m0.trans m1).trans m2⟩
/-- The first is turned, then the second. -/
theorem Duo.step {w1 w2 : World} (d : Duo W w h1 h2 base n mem F1 F2) (r1 : Ram w1 h1 base n mem' (Grow F1 w w1)) (m1 : Mod F1 w w1) (r2 : Ref.Mem w2 h2 base n mem' (Grow F2 w1 w2)) (m2 : Mod F2 w1 w2) : Duo W w2 h1 h2 base n mem' (Grow F1 w w1) (Grow F2 w1 w2) :=
  ⟨r1.mod m2 (fun k a b => by
      have := d.two.bound k b
      rcases a with a | a
      · exact d.apart k a b
      · omega), r2, fun k a b => by
      have hb := r1.bound k a
      rcases a with a | a <;> rcases b with b | b
      · exact d.apart k a b
      · omega
      · have := d.two.bound k b; omega
      · omega, fun k h => by
      have := d.mod.size
      have := m1.size
      rcases h with (h | h) | (h | h)
      · exact d.new k (.inl h)
      · omega
      · exact d.new k (.inr h)
      · omega, (d.mod.trans_new m1 fun i hi h => by have := d.new i (.inl h); omega).trans_new m2 fun i hi h => by have := d.new i (.inr h); omega⟩
end
theorem write_z {W : World} {h n : Nat} {base : Int} {mem : Nat → Int} {F : Nat → Prop} (r : Ram W h base n mem F) (addr v z : Int) (s : Nat) (hz : z = s) (ha : 0 ≤ addr ∧ addr < 18446744073709551616) (hv : 0 ≤ v ∧ v < 18446744073709551616) (h1 : wholeB s = true) (h2 : hasB base n addr s = true) :
    Calls Tryz.prog 47 #[.pointer (some ⟨h, 0, none⟩), .int .u64 addr, .int .i64 z, .int .u64 v] W fun e W' => e = .returned (.bool true) ∧ Ram W' h base n (wr mem (addr - base).toNat s v) (Grow F W W') ∧ Mod F W W' := by subst hz; exact write_yes r addr v s ha hv h1 h2
theorem rwrite_z {W : World} {h n : Nat} {base : Int} {mem : Nat → Int} {F : Nat → Prop} (r : Ref.Mem W h base n mem F) (addr v z : Int) (s : Nat) (hz : z = s) (ha : 0 ≤ addr ∧ addr < 18446744073709551616) (hv : 0 ≤ v ∧ v < 18446744073709551616) (h1 : wholeB s = true) (h2 : hasB base n addr s = true) :
    Calls Tryz.prog 48 #[.pointer (some ⟨h, 0, none⟩), .int .u64 addr, .int .i64 z, .int .u64 v] W fun e W' => e = .returned (.bool true) ∧ Ref.Mem W' h base n (wr mem (addr - base).toNat s v) (Grow F W W') ∧ Mod F W W' := by subst hz; exact Ref.write_yes r addr v s ha hv h1 h2
set_option maxHeartbeats 1000000 in
theorem wboth {W w : World} {h1 h2 n : Nat} {base : Int} {mem : Nat → Int} {F1 F2 : Nat → Prop} (d : Duo W w h1 h2 base n mem F1 F2) (addr v : Int) (ha : 0 ≤ addr ∧ addr < 18446744073709551616) (hv : 0 ≤ v ∧ v < 18446744073709551616) (hh : hasB base n addr 8 = true) :
    Calls Tryz.prog 26 #[.agg #[.pointer (some ⟨h1, 0, none⟩), .pointer (some ⟨h2, 0, none⟩)], .int .u64 addr, .int .i64 8, .int .u64 v] w fun e w' => e = .returned (.tuple #[]) ∧ ∃ F1' F2', Duo W w' h1 h2 base n (wr mem (addr - base).toNat 8 v) F1' F2' ∧ (∀ k, k < w.heap.size → F1' k → F1 k) ∧ (∀ k, k < w.heap.size → F2' k → F2 k) ∧ Mod (fun k => F1 k ∨ F2 k) w w' := by
  have D := Lib.hid d
  have P1 := Lib.hid (fun (w1 : World) (r : Ram w1 h1 base n mem F1) => write_z r addr v 8 8 rfl ha hv (by decide) hh)
  have P2 := Lib.hid (fun (w1 : World) (r : Ref.Mem w1 h2 base n mem F2) => rwrite_z r addr v 8 8 rfl ha hv (by decide) hh)
  have hu := Tryz.underlying33
  clear d ha hv hh
  go_enter Tryz.func26, Tryz.ntmps26
  go_wp2_with (first
 | ((with_reducible refine Step.gate_box (t := 33) rfl ?_); refine Step.fresh (cs := #[.pointer (some ⟨h1, 0, none⟩), .pointer (some ⟨h2, 0, none⟩)]) (T := 33) rfl ?hr ?_; (case hr => first | (go_simp; done) | (go_simp; rfl)); intro g w2 b hg hb; have c0 := b.cell 0; have B := Lib.hid b; have D2 := Lib.hid (D.out.below hb); have HB := Lib.hid hb; have HG := Lib.hid hg; simp only [List.getElem?_toArray, List.getElem?_cons_zero] at c0; clear b hg hb)
 | (go_at_call 47; refine (P1.out _ D2.out.one).mono ?_; rintro e w3 ⟨rfl, r, m⟩; have R1 := Lib.hid r; have M1 := Lib.hid m; have c1 := (((B.out.mod m (fun hf => by have := D.out.bound g (.inl hf); have := HG.out; omega)).cell 1)); have r2 := Lib.hid (D2.out.two.mod m (fun k h2 h1 => D.out.apart k h1 h2)); simp only [List.getElem?_toArray, List.getElem?_cons_zero, List.getElem?_cons_succ] at c1; clear r m)
 | (go_at_call 48; refine (P2.out _ r2.out).mono ?_; rintro e w4 ⟨rfl, r, m⟩; have R2 := Lib.hid r; have M2 := Lib.hid m; clear r m))
  go_end0
  have dd := D2.out.step R1.out M1.out R2.out M2.out
  have hs := HB.out.size
  refine ⟨rfl, _, _, dd, fun k hk h => h.elim id fun h => by omega, fun k hk h => h.elim id fun h => by have := M1.out.size; omega, ?_⟩
  refine ((Mod.of_below HB.out _).trans (M1.out.mono fun k _ h => .inl h)).trans (M2.out.mono fun k _ h => .inr h)
end Go.Proofs.YtchpnbckgofiaaaGreat.Duo
end
