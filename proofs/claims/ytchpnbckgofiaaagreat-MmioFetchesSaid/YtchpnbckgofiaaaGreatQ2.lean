/- Parts of the walks and laws for the claim: Bits, Pick, Cells, HrtC, Kn, Mid, HrtE, Get, Ram, RamB; no conditions beyond the theorems' own. -/
import Derived.BigQuiet
import Derived.Deep.MidRow
import Derived.Deep.QuietTactic
import Derived.Deep.RegionHeld3
import Derived.IntWalk
import Derived.KernelRfl
import Derived.Laws.BitsAllLaws
import Derived.Laws.BitsLemmas
import Derived.Lib.Hide
import Derived.OpenShut
import Derived.Outline
import Derived.RowKit3
import Derived.Test.YtchpnbckgofiaaaGreatProg
import Derived.WalkKit
import Derived.Test.YtchpnbckgofiaaaGreatQ1
section
namespace Go.Proofs.YtchpnbckgofiaaaGreat.Enc
open Go Go.RowKit
set_option linter.unusedVariables false
set_option linter.unusedSimpArgs false
set_option maxRecDepth 100000
/-- The field [h:l] of a word, and a number of n bits with its sign. -/
def fd (a : Int) (h l : Nat) : Int := a / (2 ^ l : Nat) % (2 ^ (h - l + 1) : Nat)
def sx (n : Nat) (v : Int) : Int := if v < (2 ^ (n - 1) : Nat) then v else v - (2 ^ n : Nat)
structure W32 (a : Int) : Prop where mk :: (out : 0 ≤ a ∧ a < 4294967296)
theorem fd_bd (a : Int) (h l : Nat) : 0 ≤ fd a h l ∧ fd a h l < (2 ^ (h - l + 1) : Nat) := by
  have hp : (0 : Int) < (2 ^ (h - l + 1) : Nat) := by exact_mod_cast Nat.two_pow_pos _
  exact ⟨Int.emod_nonneg _ (by omega), Int.emod_lt_of_pos _ hp⟩
theorem ofInt_i64 (a : Nat) (ha : a < 9223372036854775808) : (BitVec.ofInt 64 (a : Int)).toNat = a := by
  rw [BitVec.ofInt_natCast, BitVec.toNat_ofNat]; exact Nat.mod_eq_of_lt (by omega)
theorem i64_and_nat (a b : Nat) (ha : a < 9223372036854775808) (hb : b < 9223372036854775808) : bits .and .i64 (a : Int) (b : Int) = ((a &&& b : Nat) : Int) := by
  have hx : a &&& b < 2 ^ 63 := Nat.and_lt_two_pow _ (by omega)
  show IntKind.i64.wrap ((BitVec.ofInt 64 (a : Int) &&& BitVec.ofInt 64 (b : Int)).toNat : Int) = _
  rw [BitVec.toNat_and, ofInt_i64 a ha, ofInt_i64 b hb, IntWalk.i64_in _ (by omega)]
theorem i64_or_nat (a b : Nat) (ha : a < 9223372036854775808) (hb : b < 9223372036854775808) : bits .or .i64 (a : Int) (b : Int) = ((a ||| b : Nat) : Int) := by
  have hx : a ||| b < 2 ^ 63 := Nat.or_lt_two_pow (by omega) (by omega)
  show IntKind.i64.wrap ((BitVec.ofInt 64 (a : Int) ||| BitVec.ofInt 64 (b : Int)).toNat : Int) = _
  rw [BitVec.toNat_or, ofInt_i64 a ha, ofInt_i64 b hb, IntWalk.i64_in _ (by omega)]
theorem i64_mask {x : Int} (s : Nat) (h : 0 ≤ x ∧ x < 9223372036854775808) (hs : s < 63) : bits .and .i64 x ((2 ^ s - 1 : Nat) : Int) = x % (2 ^ s : Nat) := by
  have hp : 2 ^ s < 2 ^ 63 := Nat.pow_lt_pow_right (by decide) hs
  obtain ⟨n, rfl⟩ := Int.eq_ofNat_of_zero_le h.1
  rw [i64_and_nat _ _ (by omega) (by omega), Nat.and_two_pow_sub_one_eq_mod]; rfl
theorem nat_or_add (s A B : Nat) (hd : A % 2 ^ s = 0) (hb : B < 2 ^ s) : A ||| B = A + B := by
  have hA : A = 2 ^ s * (A / 2 ^ s) := by have := Nat.div_add_mod A (2 ^ s); omega
  rw [hA]
  exact (Nat.two_pow_add_eq_or_of_lt hb _).symm
theorem i64_or {a b : Int} (s : Nat) (ha : 0 ≤ a ∧ a < 9223372036854775808) (hd : a % (2 ^ s : Nat) = 0) (hb : 0 ≤ b ∧ b < (2 ^ s : Nat)) (hb2 : b < 9223372036854775808) : bits .or .i64 a b = a + b := by
  obtain ⟨A, rfl⟩ := Int.eq_ofNat_of_zero_le ha.1
  obtain ⟨B, rfl⟩ := Int.eq_ofNat_of_zero_le hb.1
  rw [i64_or_nat _ _ (by omega) (by omega), nat_or_add s A B (by omega) (by omega)]; omega
theorem i64_orp {a b : Int} (s : Nat) (p : Int) (hp : p = (2 ^ s : Nat)) (ha : 0 ≤ a ∧ a < 9223372036854775808) (hd : a % p = 0) (hb : 0 ≤ b ∧ b < p) (hb2 : b < 9223372036854775808) : bits .or .i64 a b = a + b := by
  subst hp; exact i64_or s ha hd hb hb2
theorem u32_or_ {a b : Int} (s : Nat) (ha : 0 ≤ a ∧ a < 4294967296) (hd : a % (2 ^ s : Nat) = 0) (hb : 0 ≤ b ∧ b < (2 ^ s : Nat)) (hb2 : b < 4294967296) : bits .or .u32 a b = a + b := by
  obtain ⟨A, rfl⟩ := Int.eq_ofNat_of_zero_le ha.1
  obtain ⟨B, rfl⟩ := Int.eq_ofNat_of_zero_le hb.1
  rw [u32_or_nat _ _ (by omega) (by omega), nat_or_add s A B (by omega) (by omega)]; omega
theorem u32_orp {a b : Int} (s : Nat) (p : Int) (hp : p = (2 ^ s : Nat)) (ha : 0 ≤ a ∧ a < 4294967296) (hd : a % p = 0) (hb : 0 ≤ b ∧ b < p) (hb2 : b < 4294967296) : bits .or .u32 a b = a + b := by
  subst hp; exact u32_or_ s ha hd hb hb2
theorem pow_nat (k : Nat) : ((2 : Int) ^ k) = ((2 ^ k : Nat) : Int) := (Int.natCast_pow 2 k).symm
theorem mask_v (q : Int) (n : Nat) (hq : 0 ≤ q ∧ q < 4294967296) (hn : n ≤ 32) : bits .and .i64 (wrap64 q) (wrap64 (wrap64 (2 ^ n) - 1)) = q % (2 ^ n : Nat) := by
  have hp : 2 ^ n ≤ 4294967296 := Nat.pow_le_pow_right (n := 2) (j := 32) (by decide) hn
  have hp0 := Nat.two_pow_pos n
  have w1 : wrap64 q = q := by unfold wrap64; omega
  have w2 : wrap64 ((2 ^ n : Nat) : Int) = ((2 ^ n : Nat) : Int) := by generalize 2 ^ n = p at *; unfold wrap64; omega
  have w3 : wrap64 (((2 ^ n : Nat) : Int) - 1) = ((2 ^ n - 1 : Nat) : Int) := by generalize 2 ^ n = p at *; unfold wrap64; omega
  rw [pow_nat, w1, w2, w3]
  exact i64_mask n ⟨hq.1, by omega⟩ (by omega)
theorem bits_any (a z1 z2 : Int) (h l : Nat) (ha : W32 a) (hz1 : z1 = h) (hz2 : z2 = l) (hh : h ≤ 31) (hl : l ≤ h) (w : World) :
    Calls Tryz.prog 126 #[.int .u32 a, .int .i64 z1, .int .i64 z2] w fun e w' => e = .returned (.int .i64 (fd a h l)) ∧ ∃ k, w' = w.drewN k := by
  subst hz1; subst hz2
  have hv : bits .and .i64 (wrap64 (a / 2 ^ l)) (wrap64 (wrap64 (2 ^ (h - l + 1)) - 1)) = fd a h l := by
    rw [mask_v (a / 2 ^ l) (h - l + 1) ⟨Int.ediv_nonneg ha.out.1 (Int.le_of_lt (Int.pow_pos (by decide))), Int.lt_of_le_of_lt (Int.ediv_le_self _ ha.out.1) ha.out.2⟩ (by omega), pow_nat]; rfl
  go_enter Tryz.func126, Tryz.ntmps126
  go_wp2
  go_quiet (fail)
  go_wp2
  go_ret
  exact ⟨rfl, _, rfl⟩
theorem signed_v (v : Int) (n : Nat) (h1 : 1 ≤ n) (hn : n ≤ 32) (hv : 0 ≤ v ∧ v < (2 ^ n : Nat)) : wrap64 (v * 2 ^ (64 - n)) / 2 ^ (64 - n) = sx n v := by
  obtain ⟨m, rfl⟩ : ∃ m, n = m + 1 := ⟨n - 1, by omega⟩
  have e0 : ((2 : Int) ^ (64 - (m + 1))) = ((2 ^ (63 - m) : Nat) : Int) := by rw [show 64 - (m + 1) = 63 - m by omega]; exact pow_nat _
  have hm : 2 ^ m * 2 ^ (63 - m) = 9223372036854775808 := by rw [← Nat.pow_add, show m + (63 - m) = 63 by omega]
  have hs : 2 ^ (m + 1) = 2 * 2 ^ m := by rw [Nat.pow_succ]; omega
  have hm' : ((2 ^ m : Nat) : Int) * ((2 ^ (63 - m) : Nat) : Int) = 9223372036854775808 := (Int.natCast_mul _ _).symm.trans (congrArg Int.ofNat hm)
  have hp0 := Nat.two_pow_pos (63 - m)
  rw [e0]
  unfold sx
  simp only [Nat.add_sub_cancel]
  rw [hs] at hv ⊢
  generalize (2 ^ m : Nat) = p at *
  generalize (2 ^ (63 - m) : Nat) = q at *
  have hq : (0 : Int) < (q : Int) := by omega
  by_cases h : v < (p : Int)
  · rw [if_pos h]
    have a1 : 0 ≤ v * q := Int.mul_nonneg hv.1 (by omega)
    have a2 : v * q < 9223372036854775808 := by rw [← hm']; exact Int.mul_lt_mul_of_pos_right h hq
    rw [show wrap64 (v * q) = v * q by unfold wrap64; omega]
    exact Int.mul_ediv_cancel _ (by omega)
  · rw [if_neg h]
    have e3 : (v - ((2 * p : Nat) : Int)) * q = v * q - 18446744073709551616 := by
      rw [Int.sub_mul]
      have : ((2 * p : Nat) : Int) * (q : Int) = 2 * ((p : Int) * q) := by rw [Int.natCast_mul]; exact Int.mul_assoc 2 _ _
      rw [this, hm']
      rfl
    have a1 : 9223372036854775808 ≤ v * q := by rw [← hm']; exact Int.mul_le_mul_of_nonneg_right (by omega) (by omega)
    have a2 : (v - ((2 * p : Nat) : Int)) * q < 0 := Int.mul_neg_of_neg_of_pos (by omega) hq
    rw [show wrap64 (v * q) = (v - ((2 * p : Nat) : Int)) * q by unfold wrap64; omega]
    exact Int.mul_ediv_cancel _ (by omega)
theorem signed_any (v z : Int) (n : Nat) (hz : z = n) (h1 : 1 ≤ n) (hn : n ≤ 32) (hv : 0 ≤ v ∧ v < (2 ^ n : Nat)) (w : World) :
    Calls Tryz.prog 82 #[.int .i64 v, .int .i64 z] w fun e w' => e = .returned (.int .i64 (sx n v)) ∧ w = w' := by
  subst hz
  have hs := signed_v v n h1 hn hv
  go_enter Tryz.func82, Tryz.ntmps82
  go_wp2
  go_ret
  exact ⟨rfl, rfl⟩
theorem op_any (a : Int) (ha : W32 a) (w : World) : Calls Tryz.prog 101 #[.int .u32 a] w fun e w' => e = .returned (.int .i64 (fd a 6 0)) ∧ ∃ k, w' = w.drewN k := by
  have T := bits_any a 6 0 6 0 ha rfl rfl (by decide) (by decide)
  go_enter Tryz.func101, Tryz.ntmps101
  go_wp2_with (go_at_call 126; refine (T _).mono ?_; rintro e w' ⟨rfl, k, rfl⟩)
  go_ret
  exact ⟨rfl, _, rfl⟩
theorem rd_any (a : Int) (ha : W32 a) (w : World) : Calls Tryz.prog 106 #[.int .u32 a] w fun e w' => e = .returned (.int .i64 (fd a 11 7)) ∧ ∃ k, w' = w.drewN k := by
  have T := bits_any a 11 7 11 7 ha rfl rfl (by decide) (by decide)
  go_enter Tryz.func106, Tryz.ntmps106
  go_wp2_with (go_at_call 126; refine (T _).mono ?_; rintro e w' ⟨rfl, k, rfl⟩)
  go_ret
  exact ⟨rfl, _, rfl⟩
theorem f3_any (a : Int) (ha : W32 a) (w : World) : Calls Tryz.prog 102 #[.int .u32 a] w fun e w' => e = .returned (.int .i64 (fd a 14 12)) ∧ ∃ k, w' = w.drewN k := by
  have T := bits_any a 14 12 14 12 ha rfl rfl (by decide) (by decide)
  go_enter Tryz.func102, Tryz.ntmps102
  go_wp2_with (go_at_call 126; refine (T _).mono ?_; rintro e w' ⟨rfl, k, rfl⟩)
  go_ret
  exact ⟨rfl, _, rfl⟩
theorem rs1_any (a : Int) (ha : W32 a) (w : World) : Calls Tryz.prog 107 #[.int .u32 a] w fun e w' => e = .returned (.int .i64 (fd a 19 15)) ∧ ∃ k, w' = w.drewN k := by
  have T := bits_any a 19 15 19 15 ha rfl rfl (by decide) (by decide)
  go_enter Tryz.func107, Tryz.ntmps107
  go_wp2_with (go_at_call 126; refine (T _).mono ?_; rintro e w' ⟨rfl, k, rfl⟩)
  go_ret
  exact ⟨rfl, _, rfl⟩
theorem rs2_any (a : Int) (ha : W32 a) (w : World) : Calls Tryz.prog 108 #[.int .u32 a] w fun e w' => e = .returned (.int .i64 (fd a 24 20)) ∧ ∃ k, w' = w.drewN k := by
  have T := bits_any a 24 20 24 20 ha rfl rfl (by decide) (by decide)
  go_enter Tryz.func108, Tryz.ntmps108
  go_wp2_with (go_at_call 126; refine (T _).mono ?_; rintro e w' ⟨rfl, k, rfl⟩)
  go_ret
  exact ⟨rfl, _, rfl⟩
theorem f7_any (a : Int) (ha : W32 a) (w : World) : Calls Tryz.prog 127 #[.int .u32 a] w fun e w' => e = .returned (.int .i64 (fd a 31 25)) ∧ ∃ k, w' = w.drewN k := by
  have T := bits_any a 31 25 31 25 ha rfl rfl (by decide) (by decide)
  go_enter Tryz.func127, Tryz.ntmps127
  go_wp2_with (go_at_call 126; refine (T _).mono ?_; rintro e w' ⟨rfl, k, rfl⟩)
  go_ret
  exact ⟨rfl, _, rfl⟩
def rawI (a : Int) : Int := fd a 31 20
def immI (a : Int) : Int := sx 12 (rawI a)
theorem rawI_bd (a : Int) : 0 ≤ rawI a ∧ rawI a < (2 ^ 12 : Nat) := by
  unfold rawI
  have b0 := fd_bd a 31 20
  simp only [Nat.reduceSub, Nat.reduceAdd, Nat.reducePow] at *
  omega
def rawS (a : Int) : Int := fd a 31 25 * 32 + fd a 11 7
def immS (a : Int) : Int := sx 12 (rawS a)
theorem rawS_bd (a : Int) : 0 ≤ rawS a ∧ rawS a < (2 ^ 12 : Nat) := by
  unfold rawS
  have b0 := fd_bd a 31 25
  have b1 := fd_bd a 11 7
  simp only [Nat.reduceSub, Nat.reduceAdd, Nat.reducePow] at *
  omega
def rawU (a : Int) : Int := fd a 31 12 * 4096
def immU (a : Int) : Int := sx 32 (rawU a)
theorem rawU_bd (a : Int) : 0 ≤ rawU a ∧ rawU a < (2 ^ 32 : Nat) := by
  unfold rawU
  have b0 := fd_bd a 31 12
  simp only [Nat.reduceSub, Nat.reduceAdd, Nat.reducePow] at *
  omega
def rawB (a : Int) : Int := fd a 31 31 * 4096 + fd a 7 7 * 2048 + fd a 30 25 * 32 + fd a 11 8 * 2
def immB (a : Int) : Int := sx 13 (rawB a)
theorem rawB_bd (a : Int) : 0 ≤ rawB a ∧ rawB a < (2 ^ 13 : Nat) := by
  unfold rawB
  have b0 := fd_bd a 31 31
  have b1 := fd_bd a 7 7
  have b2 := fd_bd a 30 25
  have b3 := fd_bd a 11 8
  simp only [Nat.reduceSub, Nat.reduceAdd, Nat.reducePow] at *
  omega
def rawJ (a : Int) : Int := fd a 31 31 * 1048576 + fd a 19 12 * 4096 + fd a 20 20 * 2048 + fd a 30 21 * 2
def immJ (a : Int) : Int := sx 21 (rawJ a)
theorem rawJ_bd (a : Int) : 0 ≤ rawJ a ∧ rawJ a < (2 ^ 21 : Nat) := by
  unfold rawJ
  have b0 := fd_bd a 31 31
  have b1 := fd_bd a 19 12
  have b2 := fd_bd a 20 20
  have b3 := fd_bd a 30 21
  simp only [Nat.reduceSub, Nat.reduceAdd, Nat.reducePow] at *
  omega
set_option maxHeartbeats 1000000 in
theorem i_any (a : Int) (ha : W32 a) (w : World) : Calls Tryz.prog 130 #[.int .u32 a] w fun e w' => e = .returned (.int .i64 (immI a)) ∧ ∃ k, w' = w.drewN k := by
  have T0 := bits_any a 31 20 31 20 ha rfl rfl (by decide) (by decide)
  have b0 := fd_bd a 31 20
  have rb := rawI_bd a
  have S := signed_any (rawI a) 12 12 rfl (by decide) (by decide) rb
  have hr : rawI a = rawI a := rfl
  conv at hr => rhs; unfold rawI
  simp only [Nat.reduceSub, Nat.reduceAdd, Nat.reducePow] at b0 rb
  unfold immI
  generalize rawI a = r at *
  generalize hx0 : fd a 31 20 = x0 at T0 b0
  simp only [hx0] at hr
  clear hx0

  have hr2 := hr.symm
  clear hr
  go_enter Tryz.func130, Tryz.ntmps130
  go_wp2_with (first | (go_at_call 126; (with_reducible refine (T0 _).mono ?_); rintro e w' ⟨rfl, k, rfl⟩) | (go_at_call 82; (with_reducible refine (S _).mono ?_); rintro e w' ⟨rfl, rfl⟩))
  repeat (go_quiet (first | (go_at_call 126; (with_reducible exact Calls.quiet_of (T0 _))) | (go_at_call 82; exact Calls.quiet_of_same (S _))); try (go_wp2_with (fail)))
  go_ret
  exact ⟨rfl, _, rfl⟩
set_option maxHeartbeats 1000000 in
theorem s_any (a : Int) (ha : W32 a) (w : World) : Calls Tryz.prog 132 #[.int .u32 a] w fun e w' => e = .returned (.int .i64 (immS a)) ∧ ∃ k, w' = w.drewN k := by
  have T0 := f7_any a ha
  have T1 := rd_any a ha
  have b0 := fd_bd a 31 25
  have b1 := fd_bd a 11 7
  have rb := rawS_bd a
  have S := signed_any (rawS a) 12 12 rfl (by decide) (by decide) rb
  have hr : rawS a = rawS a := rfl
  conv at hr => rhs; unfold rawS
  simp only [Nat.reduceSub, Nat.reduceAdd, Nat.reducePow] at b0 b1 rb
  unfold immS
  generalize rawS a = r at *
  generalize hx0 : fd a 31 25 = x0 at T0 b0
  generalize hx1 : fd a 11 7 = x1 at T1 b1
  simp only [hx0, hx1] at hr
  clear hx0 hx1
  have o1 : bits .or .i64 (x0 * 32) (x1) = x0 * 32 + x1 := i64_orp 5 32 rfl ⟨by omega, by omega⟩ (by omega) ⟨by omega, by omega⟩ (by omega)
  have hr2 := hr.symm
  clear hr
  go_enter Tryz.func132, Tryz.ntmps132
  go_wp2_with (first | (go_at_call 127; (with_reducible refine (T0 _).mono ?_); rintro e w' ⟨rfl, k, rfl⟩) | (go_at_call 106; (with_reducible refine (T1 _).mono ?_); rintro e w' ⟨rfl, k, rfl⟩) | (go_at_call 82; (with_reducible refine (S _).mono ?_); rintro e w' ⟨rfl, rfl⟩))
  repeat (go_quiet (first | (go_at_call 127; (with_reducible exact Calls.quiet_of (T0 _))) | (go_at_call 106; (with_reducible exact Calls.quiet_of (T1 _))) | (go_at_call 82; exact Calls.quiet_of_same (S _))); try (go_wp2_with (fail)))
  go_ret
  exact ⟨rfl, _, rfl⟩
set_option maxHeartbeats 1000000 in
theorem u_any (a : Int) (ha : W32 a) (w : World) : Calls Tryz.prog 128 #[.int .u32 a] w fun e w' => e = .returned (.int .i64 (immU a)) ∧ ∃ k, w' = w.drewN k := by
  have T0 := bits_any a 31 12 31 12 ha rfl rfl (by decide) (by decide)
  have b0 := fd_bd a 31 12
  have rb := rawU_bd a
  have S := signed_any (rawU a) 32 32 rfl (by decide) (by decide) rb
  have hr : rawU a = rawU a := rfl
  conv at hr => rhs; unfold rawU
  simp only [Nat.reduceSub, Nat.reduceAdd, Nat.reducePow] at b0 rb
  unfold immU
  generalize rawU a = r at *
  generalize hx0 : fd a 31 12 = x0 at T0 b0
  simp only [hx0] at hr
  clear hx0

  have hr2 := hr.symm
  clear hr
  go_enter Tryz.func128, Tryz.ntmps128
  go_wp2_with (first | (go_at_call 126; (with_reducible refine (T0 _).mono ?_); rintro e w' ⟨rfl, k, rfl⟩) | (go_at_call 82; (with_reducible refine (S _).mono ?_); rintro e w' ⟨rfl, rfl⟩))
  repeat (go_quiet (first | (go_at_call 126; (with_reducible exact Calls.quiet_of (T0 _))) | (go_at_call 82; exact Calls.quiet_of_same (S _))); try (go_wp2_with (fail)))
  go_ret
  exact ⟨rfl, _, rfl⟩
set_option maxHeartbeats 1000000 in
theorem b_any (a : Int) (ha : W32 a) (w : World) : Calls Tryz.prog 131 #[.int .u32 a] w fun e w' => e = .returned (.int .i64 (immB a)) ∧ ∃ k, w' = w.drewN k := by
  have T0 := bits_any a 31 31 31 31 ha rfl rfl (by decide) (by decide)
  have T1 := bits_any a 7 7 7 7 ha rfl rfl (by decide) (by decide)
  have T2 := bits_any a 30 25 30 25 ha rfl rfl (by decide) (by decide)
  have T3 := bits_any a 11 8 11 8 ha rfl rfl (by decide) (by decide)
  have b0 := fd_bd a 31 31
  have b1 := fd_bd a 7 7
  have b2 := fd_bd a 30 25
  have b3 := fd_bd a 11 8
  have rb := rawB_bd a
  have S := signed_any (rawB a) 13 13 rfl (by decide) (by decide) rb
  have hr : rawB a = rawB a := rfl
  conv at hr => rhs; unfold rawB
  simp only [Nat.reduceSub, Nat.reduceAdd, Nat.reducePow] at b0 b1 b2 b3 rb
  unfold immB
  generalize rawB a = r at *
  generalize hx0 : fd a 31 31 = x0 at T0 b0
  generalize hx1 : fd a 7 7 = x1 at T1 b1
  generalize hx2 : fd a 30 25 = x2 at T2 b2
  generalize hx3 : fd a 11 8 = x3 at T3 b3
  simp only [hx0, hx1, hx2, hx3] at hr
  clear hx0 hx1 hx2 hx3
  have o1 : bits .or .i64 (x0 * 4096) (x1 * 2048) = x0 * 4096 + x1 * 2048 := i64_orp 12 4096 rfl ⟨by omega, by omega⟩ (by omega) ⟨by omega, by omega⟩ (by omega)
  have o2 : bits .or .i64 (x0 * 4096 + x1 * 2048) (x2 * 32) = x0 * 4096 + x1 * 2048 + x2 * 32 := i64_orp 11 2048 rfl ⟨by omega, by omega⟩ (by omega) ⟨by omega, by omega⟩ (by omega)
  have o3 : bits .or .i64 (x0 * 4096 + x1 * 2048 + x2 * 32) (x3 * 2) = x0 * 4096 + x1 * 2048 + x2 * 32 + x3 * 2 := i64_orp 5 32 rfl ⟨by omega, by omega⟩ (by omega) ⟨by omega, by omega⟩ (by omega)
  have hr2 := hr.symm
  clear hr
  go_enter Tryz.func131, Tryz.ntmps131
  go_wp2_with (first | (go_at_call 126; (with_reducible refine (T0 _).mono ?_); rintro e w' ⟨rfl, k, rfl⟩) | (go_at_call 126; (with_reducible refine (T1 _).mono ?_); rintro e w' ⟨rfl, k, rfl⟩) | (go_at_call 126; (with_reducible refine (T2 _).mono ?_); rintro e w' ⟨rfl, k, rfl⟩) | (go_at_call 126; (with_reducible refine (T3 _).mono ?_); rintro e w' ⟨rfl, k, rfl⟩) | (go_at_call 82; (with_reducible refine (S _).mono ?_); rintro e w' ⟨rfl, rfl⟩))
  repeat (go_quiet (first | (go_at_call 126; (with_reducible exact Calls.quiet_of (T0 _))) | (go_at_call 126; (with_reducible exact Calls.quiet_of (T1 _))) | (go_at_call 126; (with_reducible exact Calls.quiet_of (T2 _))) | (go_at_call 126; (with_reducible exact Calls.quiet_of (T3 _))) | (go_at_call 82; exact Calls.quiet_of_same (S _))); try (go_wp2_with (fail)))
  go_ret
  exact ⟨rfl, _, rfl⟩
set_option maxHeartbeats 1000000 in
theorem j_any (a : Int) (ha : W32 a) (w : World) : Calls Tryz.prog 129 #[.int .u32 a] w fun e w' => e = .returned (.int .i64 (immJ a)) ∧ ∃ k, w' = w.drewN k := by
  have T0 := bits_any a 31 31 31 31 ha rfl rfl (by decide) (by decide)
  have T1 := bits_any a 19 12 19 12 ha rfl rfl (by decide) (by decide)
  have T2 := bits_any a 20 20 20 20 ha rfl rfl (by decide) (by decide)
  have T3 := bits_any a 30 21 30 21 ha rfl rfl (by decide) (by decide)
  have b0 := fd_bd a 31 31
  have b1 := fd_bd a 19 12
  have b2 := fd_bd a 20 20
  have b3 := fd_bd a 30 21
  have rb := rawJ_bd a
  have S := signed_any (rawJ a) 21 21 rfl (by decide) (by decide) rb
  have hr : rawJ a = rawJ a := rfl
  conv at hr => rhs; unfold rawJ
  simp only [Nat.reduceSub, Nat.reduceAdd, Nat.reducePow] at b0 b1 b2 b3 rb
  unfold immJ
  generalize rawJ a = r at *
  generalize hx0 : fd a 31 31 = x0 at T0 b0
  generalize hx1 : fd a 19 12 = x1 at T1 b1
  generalize hx2 : fd a 20 20 = x2 at T2 b2
  generalize hx3 : fd a 30 21 = x3 at T3 b3
  simp only [hx0, hx1, hx2, hx3] at hr
  clear hx0 hx1 hx2 hx3
  have o1 : bits .or .i64 (x0 * 1048576) (x1 * 4096) = x0 * 1048576 + x1 * 4096 := i64_orp 20 1048576 rfl ⟨by omega, by omega⟩ (by omega) ⟨by omega, by omega⟩ (by omega)
  have o2 : bits .or .i64 (x0 * 1048576 + x1 * 4096) (x2 * 2048) = x0 * 1048576 + x1 * 4096 + x2 * 2048 := i64_orp 12 4096 rfl ⟨by omega, by omega⟩ (by omega) ⟨by omega, by omega⟩ (by omega)
  have o3 : bits .or .i64 (x0 * 1048576 + x1 * 4096 + x2 * 2048) (x3 * 2) = x0 * 1048576 + x1 * 4096 + x2 * 2048 + x3 * 2 := i64_orp 11 2048 rfl ⟨by omega, by omega⟩ (by omega) ⟨by omega, by omega⟩ (by omega)
  have hr2 := hr.symm
  clear hr
  go_enter Tryz.func129, Tryz.ntmps129
  go_wp2_with (first | (go_at_call 126; (with_reducible refine (T0 _).mono ?_); rintro e w' ⟨rfl, k, rfl⟩) | (go_at_call 126; (with_reducible refine (T1 _).mono ?_); rintro e w' ⟨rfl, k, rfl⟩) | (go_at_call 126; (with_reducible refine (T2 _).mono ?_); rintro e w' ⟨rfl, k, rfl⟩) | (go_at_call 126; (with_reducible refine (T3 _).mono ?_); rintro e w' ⟨rfl, k, rfl⟩) | (go_at_call 82; (with_reducible refine (S _).mono ?_); rintro e w' ⟨rfl, rfl⟩))
  repeat (go_quiet (first | (go_at_call 126; (with_reducible exact Calls.quiet_of (T0 _))) | (go_at_call 126; (with_reducible exact Calls.quiet_of (T1 _))) | (go_at_call 126; (with_reducible exact Calls.quiet_of (T2 _))) | (go_at_call 126; (with_reducible exact Calls.quiet_of (T3 _))) | (go_at_call 82; exact Calls.quiet_of_same (S _))); try (go_wp2_with (fail)))
  go_ret
  exact ⟨rfl, _, rfl⟩
theorem none_any (a : Int) (w : World) : Calls Tryz.prog 133 #[.int .u32 a] w fun e w' => e = .returned (.int .i64 0) ∧ ∃ k, w' = w.drewN k := by
  go_enter Tryz.func133, Tryz.ntmps133
  go_wp2
  go_ret
  exact ⟨rfl, 0, rfl⟩
theorem rbits_v (q : Int) (n : Nat) (hq : 0 ≤ q ∧ q < 4294967296) (hn : n ≤ 32) : Int.tmod (wrap64 q) (wrap64 (2 ^ n)) = q % (2 ^ n : Nat) := by
  have hp : 2 ^ n ≤ 4294967296 := Nat.pow_le_pow_right (n := 2) (j := 32) (by decide) hn
  have hp0 := Nat.two_pow_pos n
  have w1 : wrap64 q = q := by unfold wrap64; omega
  have w2 : wrap64 ((2 ^ n : Nat) : Int) = ((2 ^ n : Nat) : Int) := by generalize 2 ^ n = p at *; unfold wrap64; omega
  rw [pow_nat, w1, w2]
  exact Int.tmod_eq_emod_of_nonneg hq.1
theorem wrap_pow (n : Nat) (hn : n ≤ 32) : wrap64 ((2 ^ n : Nat) : Int) = ((2 ^ n : Nat) : Int) := by
  have hp : 2 ^ n ≤ 4294967296 := Nat.pow_le_pow_right (n := 2) (j := 32) (by decide) hn
  generalize 2 ^ n = p at *
  unfold wrap64; omega
theorem rbits_any (a z1 z2 : Int) (h l : Nat) (ha : W32 a) (hz1 : z1 = h) (hz2 : z2 = l) (hh : h ≤ 31) (hl : l ≤ h) (w : World) :
    Calls Tryz.prog 65 #[.int .u32 a, .int .i64 z1, .int .i64 z2] w fun e w' => e = .returned (.int .i64 (fd a h l)) ∧ ∃ k, w' = w.drewN k := by
  subst hz1; subst hz2
  have hv : (wrap64 (a / 2 ^ l)).tmod (wrap64 (2 ^ (h - l + 1))) = fd a h l := by
    rw [rbits_v (a / 2 ^ l) (h - l + 1) ⟨Int.ediv_nonneg ha.out.1 (Int.le_of_lt (Int.pow_pos (by decide))), Int.lt_of_le_of_lt (Int.ediv_le_self _ ha.out.1) ha.out.2⟩ (by omega), pow_nat]; rfl
  have hne : ¬ wrap64 (2 ^ (h - l + 1)) = 0 := by
    rw [pow_nat, wrap_pow _ (by omega)]
    have := Nat.two_pow_pos (h - l + 1)
    omega
  go_enter Tryz.func65, Tryz.ntmps65
  go_wp2
  go_ret
  exact ⟨rfl, 0, rfl⟩
theorem rsigned_any (v z : Int) (n : Nat) (hz : z = n) (h1 : 1 ≤ n) (hn : n ≤ 32) (hv : 0 ≤ v ∧ v < (2 ^ n : Nat)) (w : World) :
    Calls Tryz.prog 38 #[.int .i64 v, .int .i64 z] w fun e w' => e = .returned (.int .i64 (sx n v)) ∧ w = w' := by
  subst hz
  have hp : 2 ^ n ≤ 4294967296 := Nat.pow_le_pow_right (n := 2) (j := 32) (by decide) hn
  have e1 : (wrap64 (2 ^ n)) = ((2 ^ n : Nat) : Int) := by rw [pow_nat, wrap_pow _ hn]
  have e2 : (wrap64 (2 ^ (n - 1))) = ((2 ^ (n - 1) : Nat) : Int) := by rw [pow_nat, wrap_pow _ (by omega)]
  unfold sx
  generalize hx : wrap64 (2 ^ n) = x at e1
  generalize hy : wrap64 (2 ^ (n - 1)) = y at e2
  rw [← e1] at hv
  rw [← e1, ← e2]
  have bx : x ≤ 4294967296 := by omega
  clear e1 e2 hp
  by_cases h : v < y
  · rw [if_pos h]
    go_enter Tryz.func38, Tryz.ntmps38
    go_wp2
    go_ret
    exact ⟨rfl, rfl⟩
  · rw [if_neg h]
    have e3 : wrap64 (v - x) = v - x := by unfold wrap64; omega
    go_enter Tryz.func38, Tryz.ntmps38
    go_wp2
    go_ret
    exact ⟨rfl, rfl⟩
set_option maxHeartbeats 1000000 in
theorem ri_any (a : Int) (ha : W32 a) (w : World) : Calls Tryz.prog 121 #[.int .u32 a] w fun e w' => e = .returned (.int .i64 (immI a)) ∧ ∃ k, w' = w.drewN k := by
  have T0 := rbits_any a 31 20 31 20 ha rfl rfl (by decide) (by decide)
  have b0 := fd_bd a 31 20
  have rb := rawI_bd a
  have S := rsigned_any (rawI a) 12 12 rfl (by decide) (by decide) rb
  have hr : rawI a = rawI a := rfl
  conv at hr => rhs; unfold rawI
  simp only [Nat.reduceSub, Nat.reduceAdd, Nat.reducePow] at b0 rb
  unfold immI
  generalize rawI a = r at *
  generalize hx0 : fd a 31 20 = x0 at T0 b0
  simp only [hx0] at hr
  clear hx0
  have hr2 := hr.symm
  clear hr
  go_enter Tryz.func121, Tryz.ntmps121
  go_wp2_with (first | (go_at_call 65; (with_reducible refine (T0 _).mono ?_); rintro e w' ⟨rfl, k, rfl⟩) | (go_at_call 38; (with_reducible refine (S _).mono ?_); rintro e w' ⟨rfl, rfl⟩))
  repeat (go_quiet (first | (go_at_call 65; (with_reducible exact Calls.quiet_of (T0 _))) | (go_at_call 38; (with_reducible exact Calls.quiet_of_same (S _)))); try (go_wp2_with (fail)))
  go_ret
  exact ⟨rfl, _, rfl⟩
set_option maxHeartbeats 1000000 in
theorem rs_any (a : Int) (ha : W32 a) (w : World) : Calls Tryz.prog 123 #[.int .u32 a] w fun e w' => e = .returned (.int .i64 (immS a)) ∧ ∃ k, w' = w.drewN k := by
  have T0 := rbits_any a 31 25 31 25 ha rfl rfl (by decide) (by decide)
  have T1 := rbits_any a 11 7 11 7 ha rfl rfl (by decide) (by decide)
  have b0 := fd_bd a 31 25
  have b1 := fd_bd a 11 7
  have rb := rawS_bd a
  have S := rsigned_any (rawS a) 12 12 rfl (by decide) (by decide) rb
  have hr : rawS a = rawS a := rfl
  conv at hr => rhs; unfold rawS
  simp only [Nat.reduceSub, Nat.reduceAdd, Nat.reducePow] at b0 b1 rb
  unfold immS
  generalize rawS a = r at *
  generalize hx0 : fd a 31 25 = x0 at T0 b0
  generalize hx1 : fd a 11 7 = x1 at T1 b1
  simp only [hx0, hx1] at hr
  clear hx0 hx1
  have hr2 := hr.symm
  clear hr
  go_enter Tryz.func123, Tryz.ntmps123
  go_wp2_with (first | (go_at_call 65; (with_reducible refine (T0 _).mono ?_); rintro e w' ⟨rfl, k, rfl⟩) | (go_at_call 65; (with_reducible refine (T1 _).mono ?_); rintro e w' ⟨rfl, k, rfl⟩) | (go_at_call 38; (with_reducible refine (S _).mono ?_); rintro e w' ⟨rfl, rfl⟩))
  repeat (go_quiet (first | (go_at_call 65; (with_reducible exact Calls.quiet_of (T0 _))) | (go_at_call 65; (with_reducible exact Calls.quiet_of (T1 _))) | (go_at_call 38; (with_reducible exact Calls.quiet_of_same (S _)))); try (go_wp2_with (fail)))
  go_ret
  exact ⟨rfl, _, rfl⟩
set_option maxHeartbeats 1000000 in
theorem ru_any (a : Int) (ha : W32 a) (w : World) : Calls Tryz.prog 119 #[.int .u32 a] w fun e w' => e = .returned (.int .i64 (immU a)) ∧ ∃ k, w' = w.drewN k := by
  have T0 := rbits_any a 31 12 31 12 ha rfl rfl (by decide) (by decide)
  have b0 := fd_bd a 31 12
  have rb := rawU_bd a
  have S := rsigned_any (rawU a) 32 32 rfl (by decide) (by decide) rb
  have hr : rawU a = rawU a := rfl
  conv at hr => rhs; unfold rawU
  simp only [Nat.reduceSub, Nat.reduceAdd, Nat.reducePow] at b0 rb
  unfold immU
  generalize rawU a = r at *
  generalize hx0 : fd a 31 12 = x0 at T0 b0
  simp only [hx0] at hr
  clear hx0
  have hr2 := hr.symm
  clear hr
  go_enter Tryz.func119, Tryz.ntmps119
  go_wp2_with (first | (go_at_call 65; (with_reducible refine (T0 _).mono ?_); rintro e w' ⟨rfl, k, rfl⟩) | (go_at_call 38; (with_reducible refine (S _).mono ?_); rintro e w' ⟨rfl, rfl⟩))
  repeat (go_quiet (first | (go_at_call 65; (with_reducible exact Calls.quiet_of (T0 _))) | (go_at_call 38; (with_reducible exact Calls.quiet_of_same (S _)))); try (go_wp2_with (fail)))
  go_ret
  exact ⟨rfl, _, rfl⟩
set_option maxHeartbeats 1000000 in
theorem rb_any (a : Int) (ha : W32 a) (w : World) : Calls Tryz.prog 122 #[.int .u32 a] w fun e w' => e = .returned (.int .i64 (immB a)) ∧ ∃ k, w' = w.drewN k := by
  have T0 := rbits_any a 31 31 31 31 ha rfl rfl (by decide) (by decide)
  have T1 := rbits_any a 7 7 7 7 ha rfl rfl (by decide) (by decide)
  have T2 := rbits_any a 30 25 30 25 ha rfl rfl (by decide) (by decide)
  have T3 := rbits_any a 11 8 11 8 ha rfl rfl (by decide) (by decide)
  have b0 := fd_bd a 31 31
  have b1 := fd_bd a 7 7
  have b2 := fd_bd a 30 25
  have b3 := fd_bd a 11 8
  have rb := rawB_bd a
  have S := rsigned_any (rawB a) 13 13 rfl (by decide) (by decide) rb
  have hr : rawB a = rawB a := rfl
  conv at hr => rhs; unfold rawB
  simp only [Nat.reduceSub, Nat.reduceAdd, Nat.reducePow] at b0 b1 b2 b3 rb
  unfold immB
  generalize rawB a = r at *
  generalize hx0 : fd a 31 31 = x0 at T0 b0
  generalize hx1 : fd a 7 7 = x1 at T1 b1
  generalize hx2 : fd a 30 25 = x2 at T2 b2
  generalize hx3 : fd a 11 8 = x3 at T3 b3
  simp only [hx0, hx1, hx2, hx3] at hr
  clear hx0 hx1 hx2 hx3
  have hr2 := hr.symm
  clear hr
  go_enter Tryz.func122, Tryz.ntmps122
  go_wp2_with (first | (go_at_call 65; (with_reducible refine (T0 _).mono ?_); rintro e w' ⟨rfl, k, rfl⟩) | (go_at_call 65; (with_reducible refine (T1 _).mono ?_); rintro e w' ⟨rfl, k, rfl⟩) | (go_at_call 65; (with_reducible refine (T2 _).mono ?_); rintro e w' ⟨rfl, k, rfl⟩) | (go_at_call 65; (with_reducible refine (T3 _).mono ?_); rintro e w' ⟨rfl, k, rfl⟩) | (go_at_call 38; (with_reducible refine (S _).mono ?_); rintro e w' ⟨rfl, rfl⟩))
  repeat (go_quiet (first | (go_at_call 65; (with_reducible exact Calls.quiet_of (T0 _))) | (go_at_call 65; (with_reducible exact Calls.quiet_of (T1 _))) | (go_at_call 65; (with_reducible exact Calls.quiet_of (T2 _))) | (go_at_call 65; (with_reducible exact Calls.quiet_of (T3 _))) | (go_at_call 38; (with_reducible exact Calls.quiet_of_same (S _)))); try (go_wp2_with (fail)))
  go_ret
  exact ⟨rfl, _, rfl⟩
set_option maxHeartbeats 1000000 in
theorem rj_any (a : Int) (ha : W32 a) (w : World) : Calls Tryz.prog 120 #[.int .u32 a] w fun e w' => e = .returned (.int .i64 (immJ a)) ∧ ∃ k, w' = w.drewN k := by
  have T0 := rbits_any a 31 31 31 31 ha rfl rfl (by decide) (by decide)
  have T1 := rbits_any a 19 12 19 12 ha rfl rfl (by decide) (by decide)
  have T2 := rbits_any a 20 20 20 20 ha rfl rfl (by decide) (by decide)
  have T3 := rbits_any a 30 21 30 21 ha rfl rfl (by decide) (by decide)
  have b0 := fd_bd a 31 31
  have b1 := fd_bd a 19 12
  have b2 := fd_bd a 20 20
  have b3 := fd_bd a 30 21
  have rb := rawJ_bd a
  have S := rsigned_any (rawJ a) 21 21 rfl (by decide) (by decide) rb
  have hr : rawJ a = rawJ a := rfl
  conv at hr => rhs; unfold rawJ
  simp only [Nat.reduceSub, Nat.reduceAdd, Nat.reducePow] at b0 b1 b2 b3 rb
  unfold immJ
  generalize rawJ a = r at *
  generalize hx0 : fd a 31 31 = x0 at T0 b0
  generalize hx1 : fd a 19 12 = x1 at T1 b1
  generalize hx2 : fd a 20 20 = x2 at T2 b2
  generalize hx3 : fd a 30 21 = x3 at T3 b3
  simp only [hx0, hx1, hx2, hx3] at hr
  clear hx0 hx1 hx2 hx3
  have hr2 := hr.symm
  clear hr
  go_enter Tryz.func120, Tryz.ntmps120
  go_wp2_with (first | (go_at_call 65; (with_reducible refine (T0 _).mono ?_); rintro e w' ⟨rfl, k, rfl⟩) | (go_at_call 65; (with_reducible refine (T1 _).mono ?_); rintro e w' ⟨rfl, k, rfl⟩) | (go_at_call 65; (with_reducible refine (T2 _).mono ?_); rintro e w' ⟨rfl, k, rfl⟩) | (go_at_call 65; (with_reducible refine (T3 _).mono ?_); rintro e w' ⟨rfl, k, rfl⟩) | (go_at_call 38; (with_reducible refine (S _).mono ?_); rintro e w' ⟨rfl, rfl⟩))
  repeat (go_quiet (first | (go_at_call 65; (with_reducible exact Calls.quiet_of (T0 _))) | (go_at_call 65; (with_reducible exact Calls.quiet_of (T1 _))) | (go_at_call 65; (with_reducible exact Calls.quiet_of (T2 _))) | (go_at_call 65; (with_reducible exact Calls.quiet_of (T3 _))) | (go_at_call 38; (with_reducible exact Calls.quiet_of_same (S _)))); try (go_wp2_with (fail)))
  go_ret
  exact ⟨rfl, _, rfl⟩
end Go.Proofs.YtchpnbckgofiaaaGreat.Enc
end
section
namespace Go.Proofs.YtchpnbckgofiaaaGreat.Enc
open Go Go.RowKit Go.Proofs.YtchpnbckgofiaaaGreat.Step
set_option linter.unusedVariables false
set_option linter.unusedSimpArgs false
set_option maxRecDepth 100000
/-- The element of a list; 0: there is none. -/
def pk (L : List Int) (x : Int) : Int := if x < 0 then 0 else L.getD x.toNat 0
theorem below_drawn {w w' : World} (h : ∃ k, w' = w.drewN k) : Below w.heap.size w w' := by
  obtain ⟨k, rfl⟩ := h
  exact ⟨rfl, rfl, rfl, Nat.le_refl _, fun _ _ => rfl⟩
theorem calls_below {P : Program} {f : FuncId} {args : Array Value} {w : World} {r : Ending} (h : Calls P f args w fun e w' => e = r ∧ ∃ k, w' = w.drewN k) : Calls P f args w fun e w' => e = r ∧ Below w.heap.size w w' := h.mono fun e w' k => ⟨k.1, below_drawn k.2⟩
theorem calls_same {P : Program} {f : FuncId} {args : Array Value} {w : World} {r : Ending} (h : Calls P f args w fun e w' => e = r ∧ w = w') : Calls P f args w fun e w' => e = r ∧ Below w.heap.size w w' := h.mono fun e w' k => ⟨k.1, by rw [← k.2]; exact Below.refl _ _⟩
def ints (L : List Int) : Array Value := (L.map fun x => Value.int .i64 x).toArray
theorem ints_at (L : List Int) (k : Nat) (h : k < L.length) : (ints L)[k]? = some (.int .i64 (L.getD k 0)) := by
  simp [ints, List.getElem?_map, List.getD, List.getElem?_eq_getElem h]
theorem pick_any {W : World} {g n : Nat} {cs : Array Value} {T : TypeId} (hb : Blk W g cs T) (L : List Int) (hcs : cs = ints L) (hn : n = L.length) (hl : L.length ≤ 1000) (x : Int) (hx : -9223372036854775808 ≤ x ∧ x < 9223372036854775808) :
    Calls Tryz.prog 114 #[.slice (some ⟨g, 0, none⟩) n n, .int .i64 x] W fun e w' => e = .returned (.int .i64 (pk L x)) ∧ Below W.heap.size W w' := by
  subst hn hcs
  unfold pk
  by_cases h0 : x < 0
  · rw [if_pos h0]
    go_enter Tryz.func114, Tryz.ntmps114
    go_wp2
    go_ret
    exact ⟨rfl, Below.refl _ _⟩
  · rw [if_neg h0]
    obtain ⟨k, rfl⟩ := Int.eq_ofNat_of_zero_le (show 0 ≤ x by omega)
    rw [Int.toNat_natCast]
    by_cases h1 : k < L.length
    · have hc : W.cell? ⟨g, k, none⟩ = some (.int .i64 (L.getD k 0)) := (hb.cell k).trans (ints_at L k h1)
      generalize L.getD k 0 = v at hc ⊢
      go_enter Tryz.func114, Tryz.ntmps114
      go_wp2
      go_ret
      exact ⟨rfl, Below.refl _ _⟩
    · have hz : L.getD k 0 = 0 := by simp [List.getD, List.getElem?_eq_none (show L.length ≤ k by omega)]
      rw [hz]
      go_enter Tryz.func114, Tryz.ntmps114
      go_wp2
      go_ret
      exact ⟨rfl, Below.refl _ _⟩
theorem rpick_any {W : World} {g n : Nat} {cs : Array Value} {T : TypeId} (hb : Blk W g cs T) (L : List Int) (hcs : cs = ints L) (hn : n = L.length) (hl : L.length ≤ 1000) (x : Int) (hx : -9223372036854775808 ≤ x ∧ x < 9223372036854775808) :
    Calls Tryz.prog 67 #[.slice (some ⟨g, 0, none⟩) n n, .int .i64 x] W fun e w' => e = .returned (.int .i64 (pk L x)) ∧ Below W.heap.size W w' := by
  subst hn hcs
  unfold pk
  by_cases h0 : x < 0
  · rw [if_pos h0]
    go_enter Tryz.func67, Tryz.ntmps67
    go_wp2
    go_ret
    exact ⟨rfl, Below.refl _ _⟩
  · rw [if_neg h0]
    obtain ⟨k, rfl⟩ := Int.eq_ofNat_of_zero_le (show 0 ≤ x by omega)
    rw [Int.toNat_natCast]
    by_cases h1 : k < L.length
    · have hc : W.cell? ⟨g, k, none⟩ = some (.int .i64 (L.getD k 0)) := (hb.cell k).trans (ints_at L k h1)
      generalize L.getD k 0 = v at hc ⊢
      go_enter Tryz.func67, Tryz.ntmps67
      go_wp2
      go_ret
      exact ⟨rfl, Below.refl _ _⟩
    · have hz : L.getD k 0 = 0 := by simp [List.getD, List.getElem?_eq_none (show L.length ≤ k by omega)]
      rw [hz]
      go_enter Tryz.func67, Tryz.ntmps67
      go_wp2
      go_ret
      exact ⟨rfl, Below.refl _ _⟩
end Go.Proofs.YtchpnbckgofiaaaGreat.Enc
end
section
namespace Go.Proofs.YtchpnbckgofiaaaGreat.Enc
open Go Go.RowKit Go.Proofs.YtchpnbckgofiaaaGreat.Step
set_option linter.unusedVariables false
set_option linter.unusedSimpArgs false
set_option maxRecDepth 100000
/-- One instruction of the call's own, at g; nothing older was turned. -/
structure S1 (W w : World) (T : TypeId) (g : Nat) (c : Array Value) : Prop where
  below : Below W.heap.size W w
  one : Blk w g c T
  lo : W.heap.size ≤ g
/-- Two of them. -/
structure S2 (W w : World) (T : TypeId) (g r : Nat) (c d : Array Value) : Prop where
  below : Below W.heap.size W w
  one : Blk w g c T
  two : Blk w r d T
  ne : g ≠ r
  lo : W.heap.size ≤ g
  lo2 : W.heap.size ≤ r
section
variable {W w w' : World} {T : TypeId} {g r : Nat} {c c' d d' : Array Value}
theorem S1.made (b : Blk w g c T) (hg : W.heap.size ≤ g) (hb : Below W.heap.size W w) : S1 W w T g c := ⟨hb, b, hg⟩
theorem S1.call (h : S1 W w T g c) (hb : Below w.heap.size w w') : S1 W w' T g c := ⟨below_below h.below hb, h.one.below hb, h.lo⟩
theorem S1.set1 (h : S1 W w T g c) (nb : Blk w' g c' T) (m : Mod (One g) w w') : S1 W w' T g c' := ⟨below_one h.below m h.lo, nb, h.lo⟩
theorem S1.more (h : S1 W w T g c) (b : Blk w' r d T) (hr : w.heap.size ≤ r) (hb : Below w.heap.size w w') : S2 W w' T g r c d :=
  ⟨below_below h.below hb, h.one.below hb, b, fun e => by have := h.one.lt; omega, h.lo, by have := h.below.size; omega⟩
theorem S2.call (h : S2 W w T g r c d) (hb : Below w.heap.size w w') : S2 W w' T g r c d := ⟨below_below h.below hb, h.one.below hb, h.two.below hb, h.ne, h.lo, h.lo2⟩
theorem S2.set1 (h : S2 W w T g r c d) (nb : Blk w' g c' T) (m : Mod (One g) w w') : S2 W w' T g r c' d := ⟨below_one h.below m h.lo, nb, h.two.one m h.ne.symm, h.ne, h.lo, h.lo2⟩
theorem S2.set2 (h : S2 W w T g r c d) (nb : Blk w' r d' T) (m : Mod (One r) w w') : S2 W w' T g r c d' := ⟨below_one h.below m h.lo2, h.one.one m h.ne, nb, h.ne, h.lo, h.lo2⟩
end
theorem alloc_agg {t : TypeId} {cs : Array Value} (h : (Tryz.prog.info? t).bind (·.zero) = some (.agg cs)) (W : World) : (Instr.alloc t true (.tuple #[])).run Tryz.prog W = .ok (.pointer (some ⟨W.heap.size, 0, none⟩)) (W.alloc (.cells cs t (0, 0))) := by
  cases hi : Tryz.prog.info? t with
  | none => rw [hi] at h; cases h
  | some i =>
    rw [hi] at h
    have hz : i.zero = some (.agg cs) := h
    simp [Instr.alloc, zeroValue, typeInfo, hi, hz, newVar, newRow, newObj, Result.andThen, Value.cells, go_sem]
    rfl
theorem zero_inst : (Tryz.prog.info? 85).bind (·.zero) = some (.agg #[.int .i64 0, .int .i64 0, .int .i64 0, .int .i64 0, .int .i64 0, .int .i64 0, .int .i64 0, .bool false]) := by kernel_rfl
theorem size_inst : (Tryz.prog.info? 85).map (·.size) = some 8 := by kernel_rfl
theorem pl_int : Step.plainT Tryz.prog 3 = true := by kernel_rfl
theorem pl_bool : Step.plainT Tryz.prog 4 = true := by kernel_rfl
theorem results_row_tmp {P : Program} {fn : Func} {p u : Tmp} {ty : TypeId} (h : fn.results = #[.cell p ty, .tmp u]) (tmps : Array Value) (w : World) (g : Nat) (t : TypeId) (cs : Array Value) (d : TypeDesc)
    (hp : tmps.getD p undef = .pointer (some ⟨g, 0, none⟩)) (hg : Blk w g cs t) (hu : P.underlying ty = some d) (hd : (match d with | .struct _ | .array _ _ => true | _ => false) = true) (hi : (P.info? ty).map (·.size) = some cs.size) :
    (results fn tmps).run P w = .ok (.tuple #[.agg cs, tmps.getD u undef]) w := by
  rw [results_cell_tmp h, hp]
  have h2 := run_loadVar_row (P := P) w g t ty cs (0, 0) d hg.out hu hd hi
  simp [asAddr, Result.andThen, h2]
theorem results_row {P : Program} {fn : Func} {p : Tmp} {ty : TypeId} (h : fn.results = #[.cell p ty]) (tmps : Array Value) (w : World) (g : Nat) (t : TypeId) (cs : Array Value) (d : TypeDesc)
    (hp : tmps.getD p undef = .pointer (some ⟨g, 0, none⟩)) (hg : Blk w g cs t) (hu : P.underlying ty = some d) (hd : (match d with | .struct _ | .array _ _ => true | _ => false) = true) (hi : (P.info? ty).map (·.size) = some cs.size) :
    (results fn tmps).run P w = .ok (.agg cs) w := results_cell_row h tmps w g t cs (0, 0) d hp hg.out hu hd hi
theorem fd_lit {a : Int} {h l : Nat} {n : Int} (hn : n = (2 ^ (h - l + 1) : Nat)) : 0 ≤ fd a h l ∧ fd a h l < n := by subst hn; exact fd_bd a h l
theorem small {x n : Int} (h : 0 ≤ x ∧ x < n) (hn : n ≤ 9223372036854775808) : -9223372036854775808 ≤ x ∧ x < 9223372036854775808 := by omega
end Go.Proofs.YtchpnbckgofiaaaGreat.Enc
end
section
namespace Go.Proofs.YtchpnbckgofiaaaGreat.Hart
open Go Go.RowKit Go.Proofs.YtchpnbckgofiaaaGreat.Step Go.Proofs.YtchpnbckgofiaaaGreat.Enc
set_option linter.unusedVariables false
set_option linter.unusedSimpArgs false
set_option maxRecDepth 100000
def hv (h : Hrt) (i : Nat) : Value := (hc h).getD i undef
theorem hv_ok (h : Hrt) {i : Nat} (hi : i < 49) : (hc h)[i]? = some (hv h i) := by
  have : i < (hc h).size := hi
  simp [hv, Array.getD_eq_getD_getElem?, Array.getElem?_eq_getElem this]
theorem hv_pc (h : Hrt) : hv h 32 = .int .u64 h.pc := rfl
theorem hv_x0 (h : Hrt) : hv h 0 = .int .u64 (h.x 0) := rfl
theorem hv_user (h : Hrt) : hv h 33 = .bool h.user := rfl
theorem hv_on (h : Hrt) : hv h 34 = .bool h.on := rfl
theorem hv_spie (h : Hrt) : hv h 35 = .bool h.spie := rfl
theorem hv_spp (h : Hrt) : hv h 36 = .bool h.spp := rfl
theorem hv_sum (h : Hrt) : hv h 37 = .bool h.sum := rfl
theorem hv_mxr (h : Hrt) : hv h 38 = .bool h.mxr := rfl
theorem hv_rsv (h : Hrt) : hv h 39 = .bool h.rsv := rfl
theorem hv_stvec (h : Hrt) : hv h 40 = .int .u64 h.stvec := rfl
theorem hv_sscr (h : Hrt) : hv h 41 = .int .u64 h.sscr := rfl
theorem hv_sepc (h : Hrt) : hv h 42 = .int .u64 h.sepc := rfl
theorem hv_scause (h : Hrt) : hv h 43 = .int .u64 h.scause := rfl
theorem hv_stval (h : Hrt) : hv h 44 = .int .u64 h.stval := rfl
theorem hv_sie (h : Hrt) : hv h 45 = .int .u64 h.sie := rfl
theorem hv_sip (h : Hrt) : hv h 46 = .int .u64 h.sip := rfl
theorem hv_satp (h : Hrt) : hv h 47 = .int .u64 h.satp := rfl
theorem hv_resv (h : Hrt) : hv h 48 = .int .u64 h.resv := rfl
def zh : Hrt := ⟨fun _ => 0, 0, false, false, false, false, false, false, false, 0, 0, 0, 0, 0, 0, 0, 0, 0⟩
theorem zero_hart : (Tryz.prog.info? 27).bind (·.zero) = some (.agg (hc zh)) := by kernel_rfl
theorem size_hart (h : Hrt) : (Tryz.prog.info? 27).map (·.size) = some (hc h).size := (by kernel_rfl : (Tryz.prog.info? 27).map (·.size) = some 49)
theorem pl_u64 : Step.plainT Tryz.prog 22 = true := by kernel_rfl
/-- The numbers are of 64 bits. -/
structure Fit (h : Hrt) : Prop where
  x : ∀ i, i < 32 → U64 (h.x i)
  pc : U64 h.pc
  stvec : U64 h.stvec
  sscr : U64 h.sscr
  sepc : U64 h.sepc
  scause : U64 h.scause
  stval : U64 h.stval
  sie : U64 h.sie
  sip : U64 h.sip
  satp : U64 h.satp
  resv : U64 h.resv
def msk (v : Int) : Int := bits .and .u64 v 546
/-- A hart in order. -/
def ord (h : Hrt) : Hrt := { h with x := xup h.x 0 0, pc := h.pc / 2 * 2, sepc := h.sepc / 2 * 2, stvec := h.stvec / 4 * 4 + h.stvec % 2, sie := msk h.sie, sip := msk h.sip }
set_option maxHeartbeats 2000000 in
theorem order_any (h : Hrt) (hf : Fit h) (w : World) : Calls Tryz.prog 52 #[.agg (hc h)] w fun e w' => e = .returned (.agg (hc (ord h))) ∧ Below w.heap.size w w' := by
  have e1 := u_an1 hf.pc
  have e2 := u_an1 hf.sepc
  have e3 := u_an2 hf.stvec
  have e4 : bits .and .u64 h.sie 546 = msk h.sie := rfl
  have e5 : bits .and .u64 h.sip 546 = msk h.sip := rfl
  clear hf
  go_enter Tryz.func52, Tryz.ntmps52
  go_wp2_with (first
 | ((with_reducible refine Step.gate_box (t := 27) rfl ?_); refine Step.fresh (cs := hc h) (T := 27) rfl ?hr ?_; (case hr => first | (go_simp; done) | (go_simp; rfl)); intro g1 w1 b hg hb; have ST := Lib.hid (S1.made b hg hb); clear b hg hb)
 | (refine Step.freshAlloc rfl rfl (alloc_agg zero_hart) ?_; intro g2 w2 b hg hb; replace ST := Lib.hid (ST.out.more b hg hb); clear b hg hb)
 | (refine Step.store ST.out.one rfl rfl rfl rfl rfl pl_u64 rfl rfl ?_; intro w3 nb m; simp [go_sem, set_x0, set_pc, set_user, set_on, set_spie, set_spp, set_sum, set_mxr, set_rsv, set_stvec, set_sscr, set_sepc, set_scause, set_stval, set_sie, set_sip, set_satp, set_resv] at nb; replace ST := Lib.hid (ST.out.set1 nb m); clear nb m)
 | (refine Step.store ST.out.one rfl rfl rfl rfl rfl pl_bool rfl rfl ?_; intro w3 nb m; simp [go_sem, set_x0, set_pc, set_user, set_on, set_spie, set_spp, set_sum, set_mxr, set_rsv, set_stvec, set_sscr, set_sepc, set_scause, set_stval, set_sie, set_sip, set_satp, set_resv] at nb; replace ST := Lib.hid (ST.out.set1 nb m); clear nb m)
 | (refine Step.load ST.out.one rfl rfl rfl pl_u64 (hv_ok _ (by decide)) ?_; simp only [hv_x0, hv_pc, hv_user, hv_on, hv_spie, hv_spp, hv_sum, hv_mxr, hv_rsv, hv_stvec, hv_sscr, hv_sepc, hv_scause, hv_stval, hv_sie, hv_sip, hv_satp, hv_resv])
 | (refine Step.load ST.out.one rfl rfl rfl pl_bool (hv_ok _ (by decide)) ?_; simp only [hv_x0, hv_pc, hv_user, hv_on, hv_spie, hv_spp, hv_sum, hv_mxr, hv_rsv, hv_stvec, hv_sscr, hv_sepc, hv_scause, hv_stval, hv_sie, hv_sip, hv_satp, hv_resv])
 | (refine Step.storeAll ST.out.one rfl rfl rfl rfl rfl (size_hart _) rfl (hc_all _) ?_; intro w3 nb m; replace ST := Lib.hid (ST.out.set1 nb m); clear nb m)
 | (refine Step.loadAll ST.out.one rfl rfl rfl Tryz.underlying27 rfl (size_hart _) ?_)
 | (refine Step.store ST.out.two rfl rfl rfl rfl rfl pl_u64 rfl rfl ?_; intro w3 nb m; simp [go_sem, set_x0, set_pc, set_user, set_on, set_spie, set_spp, set_sum, set_mxr, set_rsv, set_stvec, set_sscr, set_sepc, set_scause, set_stval, set_sie, set_sip, set_satp, set_resv] at nb; replace ST := Lib.hid (ST.out.set2 nb m); clear nb m)
 | (refine Step.store ST.out.two rfl rfl rfl rfl rfl pl_bool rfl rfl ?_; intro w3 nb m; simp [go_sem, set_x0, set_pc, set_user, set_on, set_spie, set_spp, set_sum, set_mxr, set_rsv, set_stvec, set_sscr, set_sepc, set_scause, set_stval, set_sie, set_sip, set_satp, set_resv] at nb; replace ST := Lib.hid (ST.out.set2 nb m); clear nb m)
 | (refine Step.load ST.out.two rfl rfl rfl pl_u64 (hv_ok _ (by decide)) ?_; simp only [hv_x0, hv_pc, hv_user, hv_on, hv_spie, hv_spp, hv_sum, hv_mxr, hv_rsv, hv_stvec, hv_sscr, hv_sepc, hv_scause, hv_stval, hv_sie, hv_sip, hv_satp, hv_resv])
 | (refine Step.load ST.out.two rfl rfl rfl pl_bool (hv_ok _ (by decide)) ?_; simp only [hv_x0, hv_pc, hv_user, hv_on, hv_spie, hv_spp, hv_sum, hv_mxr, hv_rsv, hv_stvec, hv_sscr, hv_sepc, hv_scause, hv_stval, hv_sie, hv_sip, hv_satp, hv_resv])
 | (refine Step.storeAll ST.out.two rfl rfl rfl rfl rfl (size_hart _) rfl (hc_all _) ?_; intro w3 nb m; replace ST := Lib.hid (ST.out.set2 nb m); clear nb m)
 | (refine Step.loadAll ST.out.two rfl rfl rfl Tryz.underlying27 rfl (size_hart _) ?_))
  refine bodyPost_ret (results_row rfl _ _ g2 _ _ _ rfl ST.out.two Tryz.underlying27 rfl (size_hart _)) rfl ⟨rfl, ST.out.below⟩
set_option maxHeartbeats 2000000 in
theorem rOrder_any (h : Hrt) (hf : Fit h) (w : World) : Calls Tryz.prog 16 #[.agg (hc h)] w fun e w' => e = .returned (.agg (hc (ord h))) ∧ Below w.heap.size w w' := by
  have p1 := hf.pc.out
  have p2 := hf.sepc.out
  have p3 := hf.stvec.out
  have e4 : bits .and .u64 h.sie 546 = msk h.sie := rfl
  have e5 : bits .and .u64 h.sip 546 = msk h.sip := rfl
  have q1 : IntKind.u64.wrap (h.pc / 2 * 2) = h.pc / 2 * 2 := IntWalk.u64_in _ (by omega)
  have q2 : IntKind.u64.wrap (h.sepc / 2 * 2) = h.sepc / 2 * 2 := IntWalk.u64_in _ (by omega)
  have q3 : IntKind.u64.wrap (h.stvec / 4 * 4) = h.stvec / 4 * 4 := IntWalk.u64_in _ (by omega)
  have q4 : IntKind.u64.wrap (h.stvec / 4 * 4 + h.stvec % 2) = h.stvec / 4 * 4 + h.stvec % 2 := IntWalk.u64_in _ (by omega)
  clear hf
  go_enter Tryz.func16, Tryz.ntmps16
  go_wp2_with (first
 | ((with_reducible refine Step.gate_box (t := 27) rfl ?_); refine Step.fresh (cs := hc h) (T := 27) rfl ?hr ?_; (case hr => first | (go_simp; done) | (go_simp; rfl)); intro g1 w1 b hg hb; have ST := Lib.hid (S1.made b hg hb); clear b hg hb)
 | (refine Step.freshAlloc rfl rfl (alloc_agg zero_hart) ?_; intro g2 w2 b hg hb; replace ST := Lib.hid (ST.out.more b hg hb); clear b hg hb)
 | (refine Step.store ST.out.one rfl rfl rfl rfl rfl pl_u64 rfl rfl ?_; intro w3 nb m; simp [go_sem, set_x0, set_pc, set_user, set_on, set_spie, set_spp, set_sum, set_mxr, set_rsv, set_stvec, set_sscr, set_sepc, set_scause, set_stval, set_sie, set_sip, set_satp, set_resv] at nb; replace ST := Lib.hid (ST.out.set1 nb m); clear nb m)
 | (refine Step.store ST.out.one rfl rfl rfl rfl rfl pl_bool rfl rfl ?_; intro w3 nb m; simp [go_sem, set_x0, set_pc, set_user, set_on, set_spie, set_spp, set_sum, set_mxr, set_rsv, set_stvec, set_sscr, set_sepc, set_scause, set_stval, set_sie, set_sip, set_satp, set_resv] at nb; replace ST := Lib.hid (ST.out.set1 nb m); clear nb m)
 | (refine Step.load ST.out.one rfl rfl rfl pl_u64 (hv_ok _ (by decide)) ?_; simp only [hv_x0, hv_pc, hv_user, hv_on, hv_spie, hv_spp, hv_sum, hv_mxr, hv_rsv, hv_stvec, hv_sscr, hv_sepc, hv_scause, hv_stval, hv_sie, hv_sip, hv_satp, hv_resv])
 | (refine Step.load ST.out.one rfl rfl rfl pl_bool (hv_ok _ (by decide)) ?_; simp only [hv_x0, hv_pc, hv_user, hv_on, hv_spie, hv_spp, hv_sum, hv_mxr, hv_rsv, hv_stvec, hv_sscr, hv_sepc, hv_scause, hv_stval, hv_sie, hv_sip, hv_satp, hv_resv])
 | (refine Step.storeAll ST.out.one rfl rfl rfl rfl rfl (size_hart _) rfl (hc_all _) ?_; intro w3 nb m; replace ST := Lib.hid (ST.out.set1 nb m); clear nb m)
 | (refine Step.loadAll ST.out.one rfl rfl rfl Tryz.underlying27 rfl (size_hart _) ?_)
 | (refine Step.store ST.out.two rfl rfl rfl rfl rfl pl_u64 rfl rfl ?_; intro w3 nb m; simp [go_sem, set_x0, set_pc, set_user, set_on, set_spie, set_spp, set_sum, set_mxr, set_rsv, set_stvec, set_sscr, set_sepc, set_scause, set_stval, set_sie, set_sip, set_satp, set_resv] at nb; replace ST := Lib.hid (ST.out.set2 nb m); clear nb m)
 | (refine Step.store ST.out.two rfl rfl rfl rfl rfl pl_bool rfl rfl ?_; intro w3 nb m; simp [go_sem, set_x0, set_pc, set_user, set_on, set_spie, set_spp, set_sum, set_mxr, set_rsv, set_stvec, set_sscr, set_sepc, set_scause, set_stval, set_sie, set_sip, set_satp, set_resv] at nb; replace ST := Lib.hid (ST.out.set2 nb m); clear nb m)
 | (refine Step.load ST.out.two rfl rfl rfl pl_u64 (hv_ok _ (by decide)) ?_; simp only [hv_x0, hv_pc, hv_user, hv_on, hv_spie, hv_spp, hv_sum, hv_mxr, hv_rsv, hv_stvec, hv_sscr, hv_sepc, hv_scause, hv_stval, hv_sie, hv_sip, hv_satp, hv_resv])
 | (refine Step.load ST.out.two rfl rfl rfl pl_bool (hv_ok _ (by decide)) ?_; simp only [hv_x0, hv_pc, hv_user, hv_on, hv_spie, hv_spp, hv_sum, hv_mxr, hv_rsv, hv_stvec, hv_sscr, hv_sepc, hv_scause, hv_stval, hv_sie, hv_sip, hv_satp, hv_resv])
 | (refine Step.storeAll ST.out.two rfl rfl rfl rfl rfl (size_hart _) rfl (hc_all _) ?_; intro w3 nb m; replace ST := Lib.hid (ST.out.set2 nb m); clear nb m)
 | (refine Step.loadAll ST.out.two rfl rfl rfl Tryz.underlying27 rfl (size_hart _) ?_))
  refine bodyPost_ret (results_row rfl _ _ g2 _ _ _ rfl ST.out.two Tryz.underlying27 rfl (size_hart _)) rfl ⟨rfl, ST.out.below⟩
set_option maxHeartbeats 2000000 in
theorem write_none (h : Hrt) (hf : Fit h) (v : Int) (w : World) : Calls Tryz.prog 30 #[.agg (hc h), .int .i64 0, .int .u64 v] w fun e w' => e = .returned (.tuple #[.agg (hc (ord h)), .bool false]) ∧ Below w.heap.size w w' := by
  have T0 := Lib.hid (order_any h hf)
  have hu : (ord h).user = h.user := rfl
  clear hf
  generalize ord h = h2 at *
  cases hus : h.user
  all_goals rw [hus] at hu
  all_goals clear hus
  all_goals (
    go_enter Tryz.func30, Tryz.ntmps30
    go_wp2_with (first
 | (go_at_call 52; (with_reducible refine (T0.out _).mono ?_); rintro e w' ⟨rfl, hb⟩; replace ST := Lib.hid (ST.out.call hb); clear hb)
 | ((with_reducible refine Step.gate_box (t := 27) rfl ?_); refine Step.fresh (cs := hc h) (T := 27) rfl ?hr ?_; (case hr => first | (go_simp; done) | (go_simp; rfl)); intro g1 w1 b hg hb; have ST := Lib.hid (S1.made b hg hb); clear b hg hb)
 | (refine Step.freshAlloc rfl rfl (alloc_agg zero_hart) ?_; intro g2 w2 b hg hb; replace ST := Lib.hid (ST.out.more b hg hb); clear b hg hb)
 | (refine Step.store ST.out.one rfl rfl rfl rfl rfl pl_u64 rfl rfl ?_; intro w3 nb m; simp [go_sem, set_x0, set_pc, set_user, set_on, set_spie, set_spp, set_sum, set_mxr, set_rsv, set_stvec, set_sscr, set_sepc, set_scause, set_stval, set_sie, set_sip, set_satp, set_resv] at nb; replace ST := Lib.hid (ST.out.set1 nb m); clear nb m)
 | (refine Step.store ST.out.one rfl rfl rfl rfl rfl pl_bool rfl rfl ?_; intro w3 nb m; simp [go_sem, set_x0, set_pc, set_user, set_on, set_spie, set_spp, set_sum, set_mxr, set_rsv, set_stvec, set_sscr, set_sepc, set_scause, set_stval, set_sie, set_sip, set_satp, set_resv] at nb; replace ST := Lib.hid (ST.out.set1 nb m); clear nb m)
 | (refine Step.load ST.out.one rfl rfl rfl pl_u64 (hv_ok _ (by decide)) ?_; simp only [hv_x0, hv_pc, hv_user, hv_on, hv_spie, hv_spp, hv_sum, hv_mxr, hv_rsv, hv_stvec, hv_sscr, hv_sepc, hv_scause, hv_stval, hv_sie, hv_sip, hv_satp, hv_resv])
 | (refine Step.load ST.out.one rfl rfl rfl pl_bool (hv_ok _ (by decide)) ?_; simp only [hv_x0, hv_pc, hv_user, hv_on, hv_spie, hv_spp, hv_sum, hv_mxr, hv_rsv, hv_stvec, hv_sscr, hv_sepc, hv_scause, hv_stval, hv_sie, hv_sip, hv_satp, hv_resv])
 | (refine Step.storeAll ST.out.one rfl rfl rfl rfl rfl (size_hart _) rfl (hc_all _) ?_; intro w3 nb m; replace ST := Lib.hid (ST.out.set1 nb m); clear nb m)
 | (refine Step.loadAll ST.out.one rfl rfl rfl Tryz.underlying27 rfl (size_hart _) ?_)
 | (refine Step.store ST.out.two rfl rfl rfl rfl rfl pl_u64 rfl rfl ?_; intro w3 nb m; simp [go_sem, set_x0, set_pc, set_user, set_on, set_spie, set_spp, set_sum, set_mxr, set_rsv, set_stvec, set_sscr, set_sepc, set_scause, set_stval, set_sie, set_sip, set_satp, set_resv] at nb; replace ST := Lib.hid (ST.out.set2 nb m); clear nb m)
 | (refine Step.store ST.out.two rfl rfl rfl rfl rfl pl_bool rfl rfl ?_; intro w3 nb m; simp [go_sem, set_x0, set_pc, set_user, set_on, set_spie, set_spp, set_sum, set_mxr, set_rsv, set_stvec, set_sscr, set_sepc, set_scause, set_stval, set_sie, set_sip, set_satp, set_resv] at nb; replace ST := Lib.hid (ST.out.set2 nb m); clear nb m)
 | (refine Step.load ST.out.two rfl rfl rfl pl_u64 (hv_ok _ (by decide)) ?_; simp only [hv_x0, hv_pc, hv_user, hv_on, hv_spie, hv_spp, hv_sum, hv_mxr, hv_rsv, hv_stvec, hv_sscr, hv_sepc, hv_scause, hv_stval, hv_sie, hv_sip, hv_satp, hv_resv])
 | (refine Step.load ST.out.two rfl rfl rfl pl_bool (hv_ok _ (by decide)) ?_; simp only [hv_x0, hv_pc, hv_user, hv_on, hv_spie, hv_spp, hv_sum, hv_mxr, hv_rsv, hv_stvec, hv_sscr, hv_sepc, hv_scause, hv_stval, hv_sie, hv_sip, hv_satp, hv_resv])
 | (refine Step.storeAll ST.out.two rfl rfl rfl rfl rfl (size_hart _) rfl (hc_all _) ?_; intro w3 nb m; replace ST := Lib.hid (ST.out.set2 nb m); clear nb m)
 | (refine Step.loadAll ST.out.two rfl rfl rfl Tryz.underlying27 rfl (size_hart _) ?_))
    all_goals refine bodyPost_ret (results_row_tmp rfl _ _ g2 _ _ _ rfl ST.out.two Tryz.underlying27 rfl (size_hart _)) rfl ⟨rfl, ST.out.below⟩)
end Go.Proofs.YtchpnbckgofiaaaGreat.Hart
end
section
namespace Go.Proofs.YtchpnbckgofiaaaGreat.Kn
open Go Go.RowKit Go.Proofs.YtchpnbckgofiaaaGreat.Step
set_option linter.unusedVariables false
set_option linter.unusedSimpArgs false
/-- From W to w only what S names was turned; the listed blocks are as they say, each of them new or named by S. -/
structure Kn (S : Nat → Prop) (W w : World) (L : List (Nat × Array Value × TypeId)) : Prop where
  mod : Mod S W w
  blk : ∀ p ∈ L, Blk w p.1 p.2.1 p.2.2
  own : ∀ p ∈ L, p.1 < W.heap.size → S p.1
  nod : L.Pairwise fun p q => p.1 ≠ q.1
section
variable {S : Nat → Prop} {W w w' : World} {L : List (Nat × Array Value × TypeId)} {g : Nat} {c c' : Array Value} {T T' : TypeId}
theorem Kn.nil : Kn S W W [] := ⟨Mod.refl _ _, (fun _ h => nomatch h), (fun _ h => nomatch h), List.Pairwise.nil⟩
theorem Kn.old (k : Kn S W w L) (b : Blk w g c T) (h : S g) (hn : ∀ p ∈ L, p.1 ≠ g) : Kn S W w ((g, c, T) :: L) :=
  ⟨k.mod, fun p hp => (by rcases List.mem_cons.1 hp with rfl | hp; exact b; exact k.blk p hp), fun p hp hl => (by rcases List.mem_cons.1 hp with rfl | hp; exact h; exact k.own p hp hl), List.Pairwise.cons (fun p hp e => hn p hp e.symm) k.nod⟩
theorem Kn.call (k : Kn S W w L) (hb : Below w.heap.size w w') : Kn S W w' L :=
  ⟨k.mod.trans (Mod.of_below hb _), fun p hp => (k.blk p hp).below hb, k.own, k.nod⟩
theorem Kn.drew (k : Kn S W w L) : Kn S W { w with drawn := w.drawn + 1 } L := k.call ⟨rfl, rfl, rfl, Nat.le_refl _, fun _ _ => rfl⟩
theorem Kn.made (k : Kn S W w L) (b : Blk w' g c T) (hg : w.heap.size ≤ g) (hb : Below w.heap.size w w') : Kn S W w' ((g, c, T) :: L) :=
  ⟨(k.call hb).mod, fun p hp => (by rcases List.mem_cons.1 hp with rfl | hp; exact b; exact (k.call hb).blk p hp), fun p hp hl => (by
    rcases List.mem_cons.1 hp with rfl | hp
    · have := k.mod.size; exact absurd hl (by show ¬ g < _; omega)
    · exact k.own p hp hl), List.Pairwise.cons (fun p hp e => by have := (k.blk p hp).lt; have e' : g = p.1 := e; omega) k.nod⟩
/-- A call turned what is not listed. -/
theorem Kn.turn {R : Nat → Prop} (k : Kn S W w L) (m : Mod R w w') (h1 : ∀ p ∈ L, ¬ R p.1) (h2 : ∀ i, i < W.heap.size → R i → S i) : Kn S W w' L :=
  ⟨k.mod.trans_new m h2, fun p hp => (k.blk p hp).mod m (h1 p hp), k.own, k.nod⟩
theorem Kn.set_at {A B : List (Nat × Array Value × TypeId)} (k : Kn S W w (A ++ (g, c, T) :: B)) (nb : Blk w' g c' T') (m : Mod (One g) w w') : Kn S W w' (A ++ (g, c', T') :: B) := by
  have hp := List.pairwise_append.1 k.nod
  have hB := List.pairwise_cons.1 hp.2.1
  have hmem : (g, c, T) ∈ A ++ (g, c, T) :: B := List.mem_append_right _ (List.mem_cons_self ..)
  refine ⟨k.mod.trans_new m fun i hi e => by obtain rfl := e; exact k.own _ hmem hi, fun p hq => ?_, fun p hq hl => ?_, ?_⟩
  · rcases List.mem_append.1 hq with h | h
    · exact (k.blk p (List.mem_append_left _ h)).mod m fun e => hp.2.2 p h (g, c, T) (List.mem_cons_self ..) e
    · rcases List.mem_cons.1 h with rfl | h
      · exact nb
      · exact (k.blk p (List.mem_append_right _ (List.mem_cons_of_mem _ h))).mod m fun e => hB.1 p h (e : p.1 = g).symm
  · rcases List.mem_append.1 hq with h | h
    · exact k.own p (List.mem_append_left _ h) hl
    · rcases List.mem_cons.1 h with rfl | h
      · exact k.own (g, c, T) hmem hl
      · exact k.own p (List.mem_append_right _ (List.mem_cons_of_mem _ h)) hl
  · refine List.pairwise_append.2 ⟨hp.1, List.pairwise_cons.2 ⟨hB.1, hB.2⟩, fun a ha b hb => ?_⟩
    rcases List.mem_cons.1 hb with rfl | hb
    · exact hp.2.2 a ha (g, c, T) (List.mem_cons_self ..)
    · exact hp.2.2 a ha b (List.mem_cons_of_mem _ hb)
theorem Kn.drop {p : Nat × Array Value × TypeId} (k : Kn S W w (p :: L)) : Kn S W w L := ⟨k.mod, fun q h => k.blk q (List.mem_cons_of_mem _ h), fun q h => k.own q (List.mem_cons_of_mem _ h), (List.pairwise_cons.1 k.nod).2⟩
theorem Kn.below (k : Kn Nil W w L) : Below W.heap.size W w := k.mod.below
end
section
variable {S : Nat → Prop} {W w w' : World} {L : List (Nat × Array Value × TypeId)} {g : Nat} {c c' : Array Value} {T T' : TypeId}
theorem Kn.at0 (k : Kn S W w ((g, c, T) :: L)) : Blk w g c T := k.blk (g, c, T) (List.mem_cons_self ..)
theorem Kn.set0 (k : Kn S W w ((g, c, T) :: L)) (nb : Blk w' g c' T') (m : Mod (One g) w w') : Kn S W w' ((g, c', T') :: L) := Kn.set_at (A := []) k nb m
theorem Kn.at1 {p0 : Nat × Array Value × TypeId} (k : Kn S W w (p0 :: (g, c, T) :: L)) : Blk w g c T := k.blk (g, c, T) (List.mem_cons_of_mem _ (List.mem_cons_self ..))
theorem Kn.set1 {p0 : Nat × Array Value × TypeId} (k : Kn S W w (p0 :: (g, c, T) :: L)) (nb : Blk w' g c' T') (m : Mod (One g) w w') : Kn S W w' (p0 :: (g, c', T') :: L) := Kn.set_at (A := [p0]) k nb m
theorem Kn.at2 {p0 p1 : Nat × Array Value × TypeId} (k : Kn S W w (p0 :: p1 :: (g, c, T) :: L)) : Blk w g c T := k.blk (g, c, T) (List.mem_cons_of_mem _ (List.mem_cons_of_mem _ (List.mem_cons_self ..)))
theorem Kn.set2 {p0 p1 : Nat × Array Value × TypeId} (k : Kn S W w (p0 :: p1 :: (g, c, T) :: L)) (nb : Blk w' g c' T') (m : Mod (One g) w w') : Kn S W w' (p0 :: p1 :: (g, c', T') :: L) := Kn.set_at (A := [p0, p1]) k nb m
end
end Go.Proofs.YtchpnbckgofiaaaGreat.Kn
end
section
namespace Go.Proofs.YtchpnbckgofiaaaGreat.Step
open Go Go.RowKit
set_option linter.unusedVariables false
set_option linter.unusedSimpArgs false
/-- Cells written one behind the other. -/
def lays : Array Value → Nat → List Value → Array Value
  | cs, _, [] => cs
  | cs, o, v :: r => lays (cs.setIfInBounds o v) (o + 1) r
theorem lays_list : ∀ (vs : List Value) (o : Nat) (cs : Array Value), o + vs.length ≤ cs.size → (lays cs o vs).toList = cs.toList.take o ++ (vs ++ cs.toList.drop (o + vs.length))
  | [], o, cs, _ => by simp [lays]
  | v :: r, o, cs, h => by
    have hl : o < cs.toList.length := by simp at h ⊢; omega
    have h1 := lays_list r (o + 1) (cs.setIfInBounds o v) (by simp at h ⊢; omega)
    show (lays (cs.setIfInBounds o v) (o + 1) r).toList = _
    rw [h1]
    simp only [Array.toList_setIfInBounds, List.length_cons]
    rw [List.take_set, List.drop_set, if_pos (by omega), List.take_succ_eq_append_getElem hl, List.set_append_right _ _ (by simp; omega)]
    simp [show o + 1 + r.length = o + (r.length + 1) by omega]
    have h2 : o - min o cs.size = 0 := by simp at hl; omega
    rw [h2]; rfl
section
variable {P : Program} {ops : Array Oper} {rest : List Oper} {o : Oper} {a : Act} {W : World} {Q : Exit → Act → World → Prop}
/-- A row within the block. -/
def Row (cs : Array Value) (k : Nat) (ds : Array Value) : Prop := ∀ j v, ds.toList[j]? = some v → cs[k + j]? = some v
theorem loadMid {t : TypeId} {x : Operand} {g k : Nat} {cs ds : Array Value} {T : TypeId} {d : TypeDesc} (hB : Blk W g cs T) (hg : o.guard = none) (ho : o.op = .load t x) (hx : a.eval x = .pointer (some ⟨g, k, none⟩)) (hr : Row cs k ds) (hu : P.underlying t = some d)
    (hd : d.isRow = true) (hi : (P.info? t).map (·.size) = some ds.size) (h : wpList P ops Q rest (a.put o.dst (.agg ds)) W) : wpList P ops Q (o :: rest) a W :=
  wpList_load_mid hg t x ho g k hx ds.toList d (fun j v hv => (hB.cell (k + j)).trans (hr j v hv)) hu hd (by simpa using hi) h
end
end Go.Proofs.YtchpnbckgofiaaaGreat.Step
namespace Go.Proofs.YtchpnbckgofiaaaGreat.Step
open Go Go.RowKit
set_option linter.unusedVariables false
set_option linter.unusedSimpArgs false
section
variable {P : Program} {ops : Array Oper} {rest : List Oper} {o : Oper} {a : Act} {W : World} {Q : Exit → Act → World → Prop}
end
end Go.Proofs.YtchpnbckgofiaaaGreat.Step
end
section
namespace Go.Proofs.YtchpnbckgofiaaaGreat.Hart
open Go Go.RowKit Go.Proofs.YtchpnbckgofiaaaGreat.Step Go.Proofs.YtchpnbckgofiaaaGreat.Enc
set_option linter.unusedVariables false
set_option linter.unusedSimpArgs false
set_option maxRecDepth 100000
theorem msk_w (v : Int) : U64 (msk v) := by
  have := (BitVec.ofInt 64 v &&& BitVec.ofInt 64 546).isLt
  refine ⟨?_⟩
  show 0 ≤ IntKind.u64.wrap _ ∧ IntKind.u64.wrap _ < _
  show 0 ≤ (_ : Int) % 18446744073709551616 ∧ (_ : Int) % 18446744073709551616 < 18446744073709551616
  omega
theorem ord_stvec {h : Hrt} (hf : Fit h) : U64 (ord h).stvec := ⟨by have := hf.stvec.out; show 0 ≤ h.stvec / 4 * 4 + h.stvec % 2 ∧ h.stvec / 4 * 4 + h.stvec % 2 < 18446744073709551616; omega⟩
theorem ord_fit {h : Hrt} (hf : Fit h) : Fit (ord h) where
  x := fun i hi => by
    show U64 (xup h.x 0 0 i)
    unfold xup
    split
    · exact ⟨by decide, by decide⟩
    · exact hf.x i hi
  pc := ⟨by have := hf.pc.out; show 0 ≤ h.pc / 2 * 2 ∧ h.pc / 2 * 2 < 18446744073709551616; omega⟩
  stvec := ord_stvec hf
  sscr := hf.sscr
  sepc := ⟨by have := hf.sepc.out; show 0 ≤ h.sepc / 2 * 2 ∧ h.sepc / 2 * 2 < 18446744073709551616; omega⟩
  scause := hf.scause
  stval := hf.stval
  sie := msk_w _
  sip := msk_w _
  satp := hf.satp
  resv := hf.resv
theorem wrap_w (v : Int) : U64 (IntKind.u64.wrap v) := by refine ⟨?_⟩; rw [IntKind.wrap_u64]; omega
end Go.Proofs.YtchpnbckgofiaaaGreat.Hart
end
section
namespace Go.Proofs.YtchpnbckgofiaaaGreat.Mem
open Go Go.RowKit
set_option linter.unusedVariables false
set_option maxRecDepth 100000
set_option linter.unusedSimpArgs false
theorem pl_u64 : Step.plainT Tryz.prog 22 = true := by kernel_rfl
theorem pl_u8 : Step.plainT Tryz.prog 5 = true := by kernel_rfl
theorem pl_fr : Step.plainT Tryz.prog 126 = true := by kernel_rfl
def zeros : Array Value := Array.replicate 4096 (.int .u8 0)
theorem zero_frame0 : ((Tryz.prog.info? 130).bind (·.zero)).map (fun v => match v with | .agg z => z.toList.all (fun x => match x with | .int .u8 0 => true | _ => false) && z.size == 4096 | _ => false) = some true := by kernel_rfl
theorem zero_frame : ∃ i, Tryz.prog.info? 130 = some i ∧ i.zero = some (.agg zeros) := by
  have h := zero_frame0
  cases hi : Tryz.prog.info? 130 with
  | none => rw [hi] at h; cases h
  | some i =>
    refine ⟨i, rfl, ?_⟩
    rw [hi] at h
    simp only [Option.bind_some] at h
    cases hz : i.zero with
    | none => rw [hz] at h; cases h
    | some v =>
      rw [hz] at h
      simp only [Option.map_some, Option.some.injEq] at h
      cases v with
      | agg z =>
        simp only [Bool.and_eq_true, beq_iff_eq, List.all_eq_true] at h
        refine congrArg (fun a => some (Value.agg a)) (Array.ext (by simp [zeros, h.2]) fun j h1 h2 => ?_)
        have := h.1 z[j] (by simp)
        simp only [zeros, Array.getElem_replicate]
        revert this
        generalize z[j] = x
        intro this
        split at this <;> first | rfl | cases this
      | _ => cases h
theorem alloc_frame (W : World) : (Instr.alloc 130 true (.tuple #[])).run Tryz.prog W = .ok (.pointer (some ⟨W.heap.size, 0, none⟩)) (W.alloc (.cells zeros 130 (0, 0))) := by
  obtain ⟨i, hi, hz⟩ := zero_frame
  simp [Instr.alloc, zeroValue, typeInfo, hi, hz, newVar, newRow, newObj, Result.andThen, Value.cells, go_sem]
  rfl
set_option maxHeartbeats 1000000 in
theorem get_nil (W : World) (h fb n : Nat) (base addr : Int) (k : Nat) (hb : 0 ≤ base) (ha : base ≤ addr) (ha2 : addr < 18446744073709551616) (hk : (addr - base) / 4096 = (k : Int)) (hkn : k < n) (hn : n ≤ 1024)
    (c0 : W.cell? ⟨h, 0, none⟩ = some (.int .u64 base)) (c1 : W.cell? ⟨h, 1, none⟩ = some (.slice (some ⟨fb, 0, none⟩) n n)) (ck : W.cell? ⟨fb, k, none⟩ = some (.pointer none)) :
    Calls Tryz.prog 43 #[.pointer (some ⟨h, 0, none⟩), .int .u64 addr] W fun e W' => e = .returned (.int .u8 0) ∧ W = W' := by
  have hs : IntKind.u64.wrap (addr - base) = addr - base := IntWalk.u64_in _ (by omega)
  go_enter Tryz.func43, Tryz.ntmps43
  go_wp2
  go_ret
  exact ⟨rfl, rfl⟩
set_option maxHeartbeats 1000000 in
theorem get_frame (W : World) (h fb n g : Nat) (base addr v : Int) (k j : Nat) (hb : 0 ≤ base) (ha : base ≤ addr) (ha2 : addr < 18446744073709551616) (hk : (addr - base) / 4096 = (k : Int)) (hj : (addr - base) % 4096 = (j : Int)) (hjn : j < 4096) (hkn : k < n) (hn : n ≤ 1024)
    (c0 : W.cell? ⟨h, 0, none⟩ = some (.int .u64 base)) (c1 : W.cell? ⟨h, 1, none⟩ = some (.slice (some ⟨fb, 0, none⟩) n n)) (ck : W.cell? ⟨fb, k, none⟩ = some (.pointer (some ⟨g, 0, none⟩))) (cj : W.cell? ⟨g, j, none⟩ = some (.int .u8 v)) :
    Calls Tryz.prog 43 #[.pointer (some ⟨h, 0, none⟩), .int .u64 addr] W fun e W' => e = .returned (.int .u8 v) ∧ W = W' := by
  have hs : IntKind.u64.wrap (addr - base) = addr - base := IntWalk.u64_in _ (by omega)
  go_enter Tryz.func43, Tryz.ntmps43
  go_wp2
  go_ret
  exact ⟨rfl, rfl⟩
set_option maxHeartbeats 1000000 in
theorem put_old (W : World) (h fb n g : Nat) (base addr v : Int) (cs bs : Array Value) (k j : Nat) (hb : 0 ≤ base) (ha : base ≤ addr) (ha2 : addr < 18446744073709551616) (hk : (addr - base) / 4096 = (k : Int)) (hj : (addr - base) % 4096 = (j : Int)) (hjn : j < 4096) (hkn : k < n) (hn : n ≤ 1024)
    (b0 : Step.Blk W h #[.int .u64 base, .slice (some ⟨fb, 0, none⟩) n n] 104) (b1 : Step.Blk W fb cs 126) (ck : cs[k]? = some (.pointer (some ⟨g, 0, none⟩))) (b2 : Step.Blk W g bs 130) (hbs : bs.size = 4096) :
    Calls Tryz.prog 49 #[.pointer (some ⟨h, 0, none⟩), .int .u64 addr, .int .u8 v] W fun e W' => e = .returned (.tuple #[]) ∧ Step.Blk W' g (bs.setIfInBounds j (.int .u8 v)) 130 ∧ Step.Mod (Step.One g) W W' := by
  have hs : IntKind.u64.wrap (addr - base) = addr - base := IntWalk.u64_in _ (by omega)
  have c0 := b0.cell 0
  have c1 := b0.cell 1
  have ck' := (b1.cell k).trans ck
  have B2 := Lib.hid b2
  have HJ : Nat.blt j bs.size = true := by rw [hbs]; exact Nat.ble_eq_true_of_le hjn
  have HJ2 := Lib.hid HJ
  clear HJ hbs b0 b1 ck b2
  simp at c0 c1
  go_enter Tryz.func49, Tryz.ntmps49
  go_wp2_with (first
 | (refine Step.store B2.out rfl rfl rfl rfl rfl pl_u8 rfl HJ2.out ?_; intro w1 n2 m; have N2 := Lib.hid n2; have M := Lib.hid m; clear n2 m))
  go_end0
  exact ⟨rfl, N2.out, M.out⟩
set_option maxHeartbeats 1000000 in
theorem put_new (W : World) (h fb n : Nat) (base addr v : Int) (cs : Array Value) (k j : Nat) (hb : 0 ≤ base) (ha : base ≤ addr) (ha2 : addr < 18446744073709551616) (hk : (addr - base) / 4096 = (k : Int)) (hj : (addr - base) % 4096 = (j : Int)) (hjn : j < 4096) (hkn : k < n) (hn : n ≤ 1024)
    (b0 : Step.Blk W h #[.int .u64 base, .slice (some ⟨fb, 0, none⟩) n n] 104) (b1 : Step.Blk W fb cs 126) (hcs : cs.size = n) (hne : h ≠ fb) (ck : cs[k]? = some (.pointer none)) :
    Calls Tryz.prog 49 #[.pointer (some ⟨h, 0, none⟩), .int .u64 addr, .int .u8 v] W fun e W' => e = .returned (.tuple #[]) ∧ ∃ g, Step.Blk W' g (zeros.setIfInBounds j (.int .u8 v)) 130 ∧ Step.Blk W' fb (cs.setIfInBounds k (.pointer (some ⟨g, 0, none⟩))) 126 ∧ W.heap.size ≤ g ∧ Step.Mod (Step.One fb) W W' := by
  have hs : IntKind.u64.wrap (addr - base) = addr - base := IntWalk.u64_in _ (by omega)
  have c0 := b0.cell 0
  have c1 := b0.cell 1
  have ck' := (b1.cell k).trans ck
  have lt0 := b0.lt
  have lt1 := b1.lt
  have B0 := Lib.hid b1
  have HJ : Nat.blt j zeros.size = true := by simp [zeros]; exact hjn
  have HJ2 := Lib.hid HJ
  have HK : Nat.blt k cs.size = true := by simp [hcs]; exact hkn
  have HK2 := Lib.hid HK
  clear HJ HK b0 b1 ck hcs
  simp at c0 c1
  go_enter Tryz.func49, Tryz.ntmps49
  go_wp2_with (first
 | (refine Step.freshAlloc rfl rfl alloc_frame ?_; intro g w1 b2 hg hbel;
        have c0' := (hbel.cell (p := ⟨h, 0, none⟩) lt0).trans c0; have c1' := (hbel.cell (p := ⟨h, 1, none⟩) lt0).trans c1; have ck1 := (hbel.cell (p := ⟨fb, k, none⟩) lt1).trans ck'; have B1 := Lib.hid (B0.out.below hbel); have B2 := Lib.hid b2; have HM := Lib.hid (Step.Mod.of_below hbel (Step.One fb)); have HG := Lib.hid hg; have HGF := Lib.hid (show g ≠ fb by omega); have HGH := Lib.hid (show h ≠ g by omega); clear hbel b2 c0 c1 ck' hg)
 | (refine Step.store B1.out rfl rfl rfl rfl rfl pl_fr rfl HK2.out ?_; intro w2 n2 m; have N1 := Lib.hid n2; have B3 := Lib.hid (B2.out.one m HGF.out); have M1 := Lib.hid m; clear n2 m)
 | (refine Step.store B3.out rfl rfl rfl rfl rfl pl_u8 rfl HJ2.out ?_; intro w3 n2 m; have N2 := Lib.hid n2; have N3 := Lib.hid (N1.out.one m HGF.out.symm); have M2 := Lib.hid m; clear n2 m))
  go_end0
  refine ⟨rfl, g, N2.out, N3.out, HG.out, ?_⟩
  refine (HM.out.trans M1.out).trans_new M2.out fun i hi e => ?_
  have := HG.out
  obtain rfl : i = g := e
  omega
end Go.Proofs.YtchpnbckgofiaaaGreat.Mem
end
section
namespace Go.Proofs.YtchpnbckgofiaaaGreat.Mem
open Go Go.RowKit Go.Proofs.YtchpnbckgofiaaaGreat.Step
set_option linter.unusedVariables false
set_option linter.unusedSimpArgs false
set_option maxRecDepth 100000
/-- What was owned, and what is new. -/
def Grow (F : Nat → Prop) (W W' : World) : Nat → Prop := fun k => F k ∨ W.heap.size ≤ k ∧ k < W'.heap.size
/-- A content with one place turned. -/
def upd (mem : Nat → Int) (i : Nat) (v : Int) : Nat → Int := fun k => if k = i then v else mem k
structure RamIn (W : World) (h fb : Nat) (cs : Array Value) (fs : Nat → Option Nat) (base : Int) (n : Nat) (mem : Nat → Int) (F : Nat → Prop) : Prop where
  hdr : Blk W h #[.int .u64 base, .slice (some ⟨fb, 0, none⟩) n n] 104
  row : Blk W fb cs 126
  csz : cs.size = n
  n_lo : 1 ≤ n
  n_hi : n ≤ 1024
  b_lo : 0 ≤ base
  b_hi : base ≤ 4503599627370496
  at_ : ∀ k, k < n → cs[k]? = some (.pointer ((fs k).map fun g => ⟨g, 0, none⟩))
  frame : ∀ k g, k < n → fs k = some g → F g ∧ ∃ bs, Blk W g bs 130 ∧ bs.size = 4096 ∧ ∀ j, j < 4096 → bs[j]? = some (.int .u8 (mem (k * 4096 + j)))
  none_ : ∀ k, k < n → fs k = none → ∀ j, j < 4096 → mem (k * 4096 + j) = 0
  inj : ∀ k k' g, k < n → k' < n → fs k = some g → fs k' = some g → k = k'
  foot_h : F h
  foot_fb : F fb
  bound : ∀ k, F k → k < W.heap.size
  byte : ∀ i, i < n * 4096 → 0 ≤ mem i ∧ mem i < 256
/-- A memory at a block, from a base on, of so many frames, with these bytes; what it stands in lies within F. -/
def Ram (W : World) (h : Nat) (base : Int) (n : Nat) (mem : Nat → Int) (F : Nat → Prop) : Prop := ∃ fb cs fs, RamIn W h fb cs fs base n mem F
theorem RamIn.mod {W W' : World} {h fb n : Nat} {cs : Array Value} {fs : Nat → Option Nat} {base : Int} {mem : Nat → Int} {F S : Nat → Prop} (r : RamIn W h fb cs fs base n mem F) (m : Mod S W W') (hs : ∀ k, F k → ¬ S k) : RamIn W' h fb cs fs base n mem F where
  hdr := r.hdr.mod m (hs _ r.foot_h)
  row := r.row.mod m (hs _ r.foot_fb)
  csz := r.csz
  n_lo := r.n_lo
  n_hi := r.n_hi
  b_lo := r.b_lo
  b_hi := r.b_hi
  at_ := r.at_
  frame := fun k g hk hf => by
    obtain ⟨hF, bs, hb, h2⟩ := r.frame k g hk hf
    exact ⟨hF, bs, hb.mod m (hs _ hF), h2⟩
  none_ := r.none_
  inj := r.inj
  foot_h := r.foot_h
  foot_fb := r.foot_fb
  bound := fun k hk => Nat.lt_of_lt_of_le (r.bound k hk) m.size
  byte := r.byte
theorem Ram.mod {W W' : World} {h n : Nat} {base : Int} {mem : Nat → Int} {F S : Nat → Prop} (r : Ram W h base n mem F) (m : Mod S W W') (hs : ∀ k, F k → ¬ S k) : Ram W' h base n mem F := by
  obtain ⟨fb, cs, fs, r⟩ := r
  exact ⟨fb, cs, fs, r.mod m hs⟩
theorem Ram.below {W W' : World} {h n : Nat} {base : Int} {mem : Nat → Int} {F : Nat → Prop} (r : Ram W h base n mem F) (m : Below W.heap.size W W') : Ram W' h base n mem F := r.mod (Mod.of_below m Nil) fun _ _ h => h
theorem Ram.bound {W : World} {h n : Nat} {base : Int} {mem : Nat → Int} {F : Nat → Prop} (r : Ram W h base n mem F) : ∀ k, F k → k < W.heap.size := by obtain ⟨fb, cs, fs, r⟩ := r; exact r.bound
theorem Ram.size {W : World} {h n : Nat} {base : Int} {mem : Nat → Int} {F : Nat → Prop} (r : Ram W h base n mem F) : 1 ≤ n ∧ n ≤ 1024 ∧ 0 ≤ base ∧ base ≤ 4503599627370496 := by obtain ⟨fb, cs, fs, r⟩ := r; exact ⟨r.n_lo, r.n_hi, r.b_lo, r.b_hi⟩
theorem Ram.byte {W : World} {h n : Nat} {base : Int} {mem : Nat → Int} {F : Nat → Prop} (r : Ram W h base n mem F) {i : Nat} (hi : i < n * 4096) : 0 ≤ mem i ∧ mem i < 256 := by obtain ⟨fb, cs, fs, r⟩ := r; exact r.byte i hi
theorem Ram.congr {W : World} {h n : Nat} {base : Int} {mem mem' : Nat → Int} {F : Nat → Prop} (r : Ram W h base n mem F) (hm : ∀ i, i < n * 4096 → mem i = mem' i) : Ram W h base n mem' F := by
  obtain ⟨fb, cs, fs, r⟩ := r
  have lt : ∀ k j, k < n → j < 4096 → k * 4096 + j < n * 4096 := fun k j hk hj => by have := Nat.mul_le_mul_right 4096 (show k + 1 ≤ n from hk); omega
  refine ⟨fb, cs, fs, { r with frame := fun k g hk hf => ?_, none_ := fun k hk hf j hj => ?_, byte := fun i hi => ?_ }⟩
  · obtain ⟨hF, bs, hb, h2, h3⟩ := r.frame k g hk hf
    exact ⟨hF, bs, hb, h2, fun j hj => by rw [← hm _ (lt k j hk hj)]; exact h3 j hj⟩
  · rw [← hm _ (lt k j hk hj)]; exact r.none_ k hk hf j hj
  · rw [← hm _ hi]; exact r.byte i hi
theorem offs {base addr : Int} {n : Nat} (ha : base ≤ addr) (hb : addr < base + n * 4096) : ∃ k j : Nat, (addr - base) / 4096 = (k : Int) ∧ (addr - base) % 4096 = (j : Int) ∧ j < 4096 ∧ k < n ∧ (addr - base).toNat = k * 4096 + j := by
  refine ⟨((addr - base) / 4096).toNat, ((addr - base) % 4096).toNat, ?_, ?_, ?_, ?_, ?_⟩ <;> omega
theorem get {W : World} {h n : Nat} {base : Int} {mem : Nat → Int} {F : Nat → Prop} (r : Ram W h base n mem F) (addr : Int) (ha : base ≤ addr) (hb : addr < base + n * 4096) :
    Calls Tryz.prog 43 #[.pointer (some ⟨h, 0, none⟩), .int .u64 addr] W fun e W' => e = .returned (.int .u8 (mem (addr - base).toNat)) ∧ W = W' := by
  obtain ⟨fb, cs, fs, r⟩ := r
  obtain ⟨k, j, hk, hj, hj4, hkn, ho⟩ := offs ha hb
  have := r.n_hi
  have := r.b_hi
  have c0 := r.hdr.cell 0
  have c1 := r.hdr.cell 1
  have ck := (r.row.cell k).trans (r.at_ k hkn)
  simp only [List.getElem?_toArray, List.getElem?_cons_zero, List.getElem?_cons_succ] at c0 c1
  rw [ho]
  cases hf : fs k with
  | none =>
    rw [r.none_ k hkn hf j hj4]
    rw [hf] at ck
    exact get_nil W h fb n base addr k r.b_lo ha (by omega) hk hkn r.n_hi c0 c1 ck
  | some g =>
    obtain ⟨_, bs, hb, _, hbs⟩ := r.frame k g hkn hf
    rw [hf] at ck
    exact get_frame W h fb n g base addr _ k j r.b_lo ha (by omega) hk hj hj4 hkn r.n_hi c0 c1 ck ((hb.cell j).trans (hbs j hj4))
theorem put {W : World} {h n : Nat} {base : Int} {mem : Nat → Int} {F : Nat → Prop} (r : Ram W h base n mem F) (addr v : Int) (ha : base ≤ addr) (hb : addr < base + n * 4096) (hv : 0 ≤ v ∧ v < 256) :
    Calls Tryz.prog 49 #[.pointer (some ⟨h, 0, none⟩), .int .u64 addr, .int .u8 v] W fun e W' => e = .returned (.tuple #[]) ∧ Ram W' h base n (upd mem (addr - base).toNat v) (Grow F W W') ∧ Mod F W W' := by
  obtain ⟨fb, cs, fs, r⟩ := r
  obtain ⟨k, j, hk, hj, hj4, hkn, ho⟩ := offs ha hb
  have := r.n_hi
  have := r.b_hi
  have hne : h ≠ fb := fun e => by subst e; have := (r.hdr.inj r.row).2; revert this; decide
  have hbyte : ∀ i, i < n * 4096 → 0 ≤ upd mem (k * 4096 + j) v i ∧ upd mem (k * 4096 + j) v i < 256 := fun i hi => by
    unfold upd; split
    · exact hv
    · exact r.byte i hi
  rw [ho]
  cases hf : fs k with
  | some g =>
    obtain ⟨hF, bs, hb, hsz, hbs⟩ := r.frame k g hkn hf
    have ck := r.at_ k hkn
    rw [hf] at ck
    refine (put_old W h fb n g base addr v cs bs k j r.b_lo ha (by omega) hk hj hj4 hkn r.n_hi r.hdr r.row ck hb hsz).mono ?_
    rintro e W' ⟨rfl, hb', m⟩
    have gh : h ≠ g := fun e => by subst e; have := (r.hdr.inj hb).2; revert this; decide
    have gf : fb ≠ g := fun e => by subst e; have := (r.row.inj hb).2; revert this; decide
    refine ⟨rfl, ⟨fb, cs, fs, ?_⟩, m.mono fun i _ e => by obtain rfl : i = g := e; exact hF⟩
    refine { hdr := r.hdr.one m gh, row := r.row.one m gf, csz := r.csz, n_lo := r.n_lo, n_hi := r.n_hi, b_lo := r.b_lo, b_hi := r.b_hi, at_ := r.at_, frame := fun k' g' hk' hf' => ?_, none_ := fun k' hk' hf' j' hj' => ?_, inj := r.inj, foot_h := .inl r.foot_h, foot_fb := .inl r.foot_fb, bound := fun i hi => ?_, byte := hbyte }
    · obtain ⟨hF', bs', hb2, hsz', hbs'⟩ := r.frame k' g' hk' hf'
      refine ⟨.inl hF', ?_⟩
      by_cases e : g' = g
      · subst e
        obtain rfl := r.inj k' k g' hk' hkn hf' hf
        refine ⟨_, hb', by simpa using hsz, fun j' hj' => ?_⟩
        unfold upd
        by_cases ej : j = j'
        · subst ej; rw [if_pos rfl]; simp [hsz, hj4]
        · rw [if_neg (by omega), Array.getElem?_setIfInBounds_ne ej]; exact hbs j' hj'
      · refine ⟨bs', hb2.one m e, hsz', fun j' hj' => ?_⟩
        have : k' ≠ k := fun ek => e (by subst ek; rw [hf] at hf'; exact (Option.some.inj hf').symm)
        unfold upd
        rw [if_neg (by omega)]; exact hbs' j' hj'
    · have : k' ≠ k := fun ek => by subst ek; rw [hf] at hf'; cases hf'
      unfold upd
      rw [if_neg (by omega)]; exact r.none_ k' hk' hf' j' hj'
    · rcases hi with hi | hi
      · exact Nat.lt_of_lt_of_le (r.bound i hi) m.size
      · exact hi.2
  | none =>
    have ck := r.at_ k hkn
    rw [hf] at ck
    refine (put_new W h fb n base addr v cs k j r.b_lo ha (by omega) hk hj hj4 hkn r.n_hi r.hdr r.row r.csz hne ck).mono ?_
    rintro e W' ⟨rfl, g, hg, hfb, hnew, m⟩
    refine ⟨rfl, ⟨fb, cs.setIfInBounds k (.pointer (some ⟨g, 0, none⟩)), fun i => if i = k then some g else fs i, ?_⟩, m.mono fun i _ e => by obtain rfl : i = fb := e; exact r.foot_fb⟩
    refine { hdr := r.hdr.one m hne, row := hfb, csz := by simpa using r.csz, n_lo := r.n_lo, n_hi := r.n_hi, b_lo := r.b_lo, b_hi := r.b_hi, at_ := fun k' hk' => ?_, frame := fun k' g' hk' hf' => ?_, none_ := fun k' hk' hf' j' hj' => ?_, inj := fun a b g' ha hb h1 h2 => ?_, foot_h := .inl r.foot_h, foot_fb := .inl r.foot_fb, bound := fun i hi => ?_, byte := hbyte }
    · by_cases e : k = k'
      · subst e; simp [r.csz, hkn]
      · rw [Array.getElem?_setIfInBounds_ne e]; simp only [if_neg (Ne.symm e)]; exact r.at_ k' hk'
    · by_cases e : k' = k
      · subst e
        simp only [if_true, Option.some.injEq] at hf'
        subst hf'
        refine ⟨.inr ⟨hnew, hg.lt⟩, _, hg, by simp [zeros], fun j' hj' => ?_⟩
        unfold upd
        by_cases ej : j = j'
        · subst ej; rw [if_pos rfl]; simp [zeros, hj4]
        · rw [if_neg (by omega), Array.getElem?_setIfInBounds_ne ej, r.none_ k' hk' hf j' hj']; simp [zeros, hj']
      · simp only [if_neg e] at hf'
        obtain ⟨hF', bs', hb2, hsz', hbs'⟩ := r.frame k' g' hk' hf'
        have : g' ≠ fb := fun eg => by subst eg; have := (hb2.inj r.row).2; revert this; decide
        refine ⟨.inl hF', bs', hb2.one m this, hsz', fun j' hj' => ?_⟩
        unfold upd
        rw [if_neg (by omega)]; exact hbs' j' hj'
    · by_cases e : k' = k
      · simp [e] at hf'
      · simp only [if_neg e] at hf'
        unfold upd
        rw [if_neg (by omega)]; exact r.none_ k' hk' hf' j' hj'
    · have old : ∀ c, c < n → fs c ≠ some g := fun c hc hcg => by
        have := r.bound g (r.frame c g hc hcg).1
        omega
      by_cases ea : a = k <;> by_cases eb : b = k
      · rw [ea, eb]
      · simp only [if_pos ea, if_neg eb, Option.some.injEq] at h1 h2; subst h1; exact absurd h2 (old b hb)
      · simp only [if_neg ea, if_pos eb, Option.some.injEq] at h1 h2; subst h2; exact absurd h1 (old a ha)
      · simp only [if_neg ea, if_neg eb] at h1 h2; exact r.inj a b g' ha hb h1 h2
    · rcases hi with hi | hi
      · exact Nat.lt_of_lt_of_le (r.bound i hi) m.size
      · exact hi.2
end Go.Proofs.YtchpnbckgofiaaaGreat.Mem
end
section
namespace Go.Proofs.YtchpnbckgofiaaaGreat.Mem
open Go Go.RowKit Go.Proofs.YtchpnbckgofiaaaGreat.Step
set_option linter.unusedVariables false
set_option linter.unusedSimpArgs false
set_option maxRecDepth 100000
/-- Facts of the two cells that every method reads. -/
theorem Ram.cells {W : World} {h n : Nat} {base : Int} {mem : Nat → Int} {F : Nat → Prop} (r : Ram W h base n mem F) : ∃ fb : Nat, W.cell? ⟨h, 0, none⟩ = some (.int .u64 base) ∧ W.cell? ⟨h, 1, none⟩ = some (.slice (some ⟨fb, 0, none⟩) n n) := by
  obtain ⟨fb, cs, fs, r⟩ := r
  have c0 := r.hdr.cell 0
  have c1 := r.hdr.cell 1
  simp only [List.getElem?_toArray, List.getElem?_cons_zero, List.getElem?_cons_succ] at c0 c1
  exact ⟨fb, c0, c1⟩
set_option maxHeartbeats 1000000 in
theorem size_any (W : World) (h fb n : Nat) (hn : n ≤ 1024) (c1 : W.cell? ⟨h, 1, none⟩ = some (.slice (some ⟨fb, 0, none⟩) n n)) :
    Calls Tryz.prog 68 #[.pointer (some ⟨h, 0, none⟩)] W fun e W' => e = .returned (.int .u64 (n * 4096)) ∧ W = W' := by
  go_enter Tryz.func68, Tryz.ntmps68
  go_wp2
  go_ret
  exact ⟨rfl, rfl⟩
/-- Do bytes lie in it? -/
def hasB (base : Int) (n : Nat) (addr size : Int) : Bool := decide (0 ≤ size ∧ base ≤ addr ∧ addr + size ≤ base + n * 4096)
set_option maxHeartbeats 400000 in
theorem has_any {W : World} {h n : Nat} {base : Int} {mem : Nat → Int} {F : Nat → Prop} (r : Ram W h base n mem F) (addr size : Int) (ha : 0 ≤ addr ∧ addr < 18446744073709551616) (hs : size < 9223372036854775808) :
    Calls Tryz.prog 42 #[.pointer (some ⟨h, 0, none⟩), .int .u64 addr, .int .i64 size] W fun e W' => e = .returned (.bool (hasB base n addr size)) ∧ ∃ k, W' = W.drewN k := by
  obtain ⟨fb, c0, c1⟩ := r.cells
  obtain ⟨n1, n2, b1, b2⟩ := r.size
  obtain ⟨ha1, ha2⟩ := ha
  have T := Lib.hid (fun W c1 => (size_any W h fb n n2 c1).mono fun e W2 h => (⟨h.1, h.2.symm⟩ : e = .returned (.int .u64 (n * 4096)) ∧ W2 = W))
  clear r
  have hsz := Lib.hid hs
  clear hs
  by_cases h1 : size < 0
  · have E := Lib.hid (show hasB base n addr size = false from decide_eq_false (by omega))
    go_enter Tryz.func42, Tryz.ntmps42
    go_wp2
    go_quiet ((go_at_call 68; exact Calls.quiet_of_same (T.out _ (by exact c1))))
    go_wp2
    go_ret
    exact ⟨by rw [E.out]; rfl, _, rfl⟩
  · have d1 : decide (size < 0) = false := by simpa using h1
    have h1' : 0 ≤ size := by omega
    clear h1
    by_cases h2 : addr < base
    · have E := Lib.hid (show hasB base n addr size = false from decide_eq_false (by omega))
      go_enter Tryz.func42, Tryz.ntmps42
      go_wp2
      go_quiet ((go_at_call 68; exact Calls.quiet_of_same (T.out _ (by exact c1))))
      go_wp2
      go_ret
      exact ⟨by rw [E.out]; rfl, _, rfl⟩
    · have d2 : decide (addr < base) = false := by simpa using h2
      have h2' : base ≤ addr := by omega
      clear h2
      have hs : IntKind.u64.wrap (addr - base) = addr - base := IntWalk.u64_in _ (by omega)
      by_cases h3 : (n : Int) * 4096 < addr - base
      · have E := Lib.hid (show hasB base n addr size = false from decide_eq_false (by omega))
        go_enter Tryz.func42, Tryz.ntmps42
        go_wp2
        go_quiet ((go_at_call 68; exact Calls.quiet_of_same (T.out _ (by exact c1))))
        go_wp2
        go_ret
        exact ⟨by rw [E.out]; rfl, _, rfl⟩
      · have d3 : decide ((n : Int) * 4096 < addr - base) = false := by simpa using h3
        have h3' : addr - base ≤ (n : Int) * 4096 := by omega
        clear h3
        have hs2 : IntKind.u64.wrap ((n : Int) * 4096 - (addr - base)) = (n : Int) * 4096 - (addr - base) := IntWalk.u64_in _ (by omega)
        have E := Lib.hid (show hasB base n addr size = decide (size ≤ (n : Int) * 4096 - (addr - base)) from decide_eq_decide.2 (by omega))
        go_enter Tryz.func42, Tryz.ntmps42
        go_wp2
        go_quiet ((go_at_call 68; exact Calls.quiet_of_same (T.out _ (by exact c1))))
        go_wp2
        obtain ⟨W1, hW1⟩ : ∃ W1, W1 = W.drewN nq := ⟨_, rfl⟩
        have c2 : W1.cell? ⟨h, 0, none⟩ = some (.int .u64 base) := by rw [hW1]; exact c0
        have c3 : W1.cell? ⟨h, 1, none⟩ = some (.slice (some ⟨fb, 0, none⟩) n n) := by rw [hW1]; exact c1
        have hs3 : IntKind.u64.wrap size = size := IntWalk.u64_in _ (by have := hsz.out; omega)
        rw [← hW1]
        have HW1 := Lib.hid hW1
        clear hW1 c0 c1
        go_quiet ((go_at_call 68; exact Calls.quiet_of_same (T.out _ (by exact c3))))
        go_wp2
        go_ret
        refine ⟨by rw [E.out]; rfl, ?_⟩
        rw [HW1.out]
        exact ⟨_, World.drewN_drewN _ _ _⟩
end Go.Proofs.YtchpnbckgofiaaaGreat.Mem
end
