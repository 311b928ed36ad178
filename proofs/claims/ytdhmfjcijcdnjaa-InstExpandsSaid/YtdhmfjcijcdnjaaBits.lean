/- The fields of a word, of the program and of the document: what bits, signed and the immediates come to (written by genbits.py). -/
import Derived.Test.YtdhmfjcijcdnjaaProg
import Derived.RowKit3
import Derived.WalkKit
import Derived.KernelRfl
import Derived.OpenShut
import Derived.Laws.BitsLemmas
import Derived.Laws.BitsAllLaws
import Derived.Deep.RegionHeld3
import Derived.BigQuiet
import Derived.Lib.Hide
namespace Go.Proofs.Ytdhmfjcijcdnjaa.Enc
open Go Go.RowKit
set_option linter.unusedVariables false
set_option linter.unusedSimpArgs false
set_option maxRecDepth 100000

/-- The field [h:l] of a word, and a number of n bits with its sign. -/
def fd (a : Int) (h l : Nat) : Int := a / (2 ^ l : Nat) % (2 ^ (h - l + 1) : Nat)
def sx (n : Nat) (v : Int) : Int := if v < (2 ^ (n - 1) : Nat) then v else v - (2 ^ n : Nat)
structure W32 (a : Int) : Prop where mk :: (out : 0 ≤ a ∧ a < 4294967296)
theorem fd_bd (a : Int) (h l : Nat) : 0 ≤ fd a h l ∧ fd a h l < (2 ^ (h - l + 1) : Nat) := by
  have hp : (0 : Int) < (2 ^ (h - l + 1) : Nat) := by exact_mod_cast Nat.two_pow_pos _
  exact ⟨Int.emod_nonneg _ (by omega), Int.emod_lt_of_pos _ hp⟩
theorem ofInt_i64 (a : Nat) (ha : a < 9223372036854775808) : (BitVec.ofInt 64 (a : Int)).toNat = a := by
  rw [BitVec.ofInt_natCast, BitVec.toNat_ofNat]; exact Nat.mod_eq_of_lt (by omega)
theorem i64_and_nat (a b : Nat) (ha : a < 9223372036854775808) (hb : b < 9223372036854775808) : bits .and .i64 (a : Int) (b : Int) = ((a &&& b : Nat) : Int) := by
  have hx : a &&& b < 2 ^ 63 := Nat.and_lt_two_pow _ (by omega)
  show IntKind.i64.wrap ((BitVec.ofInt 64 (a : Int) &&& BitVec.ofInt 64 (b : Int)).toNat : Int) = _
  rw [BitVec.toNat_and, ofInt_i64 a ha, ofInt_i64 b hb, IntWalk.i64_in _ (by omega)]
theorem i64_or_nat (a b : Nat) (ha : a < 9223372036854775808) (hb : b < 9223372036854775808) : bits .or .i64 (a : Int) (b : Int) = ((a ||| b : Nat) : Int) := by
  have hx : a ||| b < 2 ^ 63 := Nat.or_lt_two_pow (by omega) (by omega)
  show IntKind.i64.wrap ((BitVec.ofInt 64 (a : Int) ||| BitVec.ofInt 64 (b : Int)).toNat : Int) = _
  rw [BitVec.toNat_or, ofInt_i64 a ha, ofInt_i64 b hb, IntWalk.i64_in _ (by omega)]
theorem i64_mask {x : Int} (s : Nat) (h : 0 ≤ x ∧ x < 9223372036854775808) (hs : s < 63) : bits .and .i64 x ((2 ^ s - 1 : Nat) : Int) = x % (2 ^ s : Nat) := by
  have hp : 2 ^ s < 2 ^ 63 := Nat.pow_lt_pow_right (by decide) hs
  obtain ⟨n, rfl⟩ := Int.eq_ofNat_of_zero_le h.1
  rw [i64_and_nat _ _ (by omega) (by omega), Nat.and_two_pow_sub_one_eq_mod]; rfl
theorem nat_or_add (s A B : Nat) (hd : A % 2 ^ s = 0) (hb : B < 2 ^ s) : A ||| B = A + B := by
  have hA : A = 2 ^ s * (A / 2 ^ s) := by have := Nat.div_add_mod A (2 ^ s); omega
  rw [hA]
  exact (Nat.two_pow_add_eq_or_of_lt hb _).symm
theorem i64_or {a b : Int} (s : Nat) (ha : 0 ≤ a ∧ a < 9223372036854775808) (hd : a % (2 ^ s : Nat) = 0) (hb : 0 ≤ b ∧ b < (2 ^ s : Nat)) (hb2 : b < 9223372036854775808) : bits .or .i64 a b = a + b := by
  obtain ⟨A, rfl⟩ := Int.eq_ofNat_of_zero_le ha.1
  obtain ⟨B, rfl⟩ := Int.eq_ofNat_of_zero_le hb.1
  rw [i64_or_nat _ _ (by omega) (by omega), nat_or_add s A B (by omega) (by omega)]; omega
theorem i64_orp {a b : Int} (s : Nat) (p : Int) (hp : p = (2 ^ s : Nat)) (ha : 0 ≤ a ∧ a < 9223372036854775808) (hd : a % p = 0) (hb : 0 ≤ b ∧ b < p) (hb2 : b < 9223372036854775808) : bits .or .i64 a b = a + b := by
  subst hp; exact i64_or s ha hd hb hb2
theorem u32_or_ {a b : Int} (s : Nat) (ha : 0 ≤ a ∧ a < 4294967296) (hd : a % (2 ^ s : Nat) = 0) (hb : 0 ≤ b ∧ b < (2 ^ s : Nat)) (hb2 : b < 4294967296) : bits .or .u32 a b = a + b := by
  obtain ⟨A, rfl⟩ := Int.eq_ofNat_of_zero_le ha.1
  obtain ⟨B, rfl⟩ := Int.eq_ofNat_of_zero_le hb.1
  rw [u32_or_nat _ _ (by omega) (by omega), nat_or_add s A B (by omega) (by omega)]; omega
theorem u32_orp {a b : Int} (s : Nat) (p : Int) (hp : p = (2 ^ s : Nat)) (ha : 0 ≤ a ∧ a < 4294967296) (hd : a % p = 0) (hb : 0 ≤ b ∧ b < p) (hb2 : b < 4294967296) : bits .or .u32 a b = a + b := by
  subst hp; exact u32_or_ s ha hd hb hb2
/-- Some drawn: nothing but the order's tape was turned. -/
def Dr (w w' : World) : Prop := ∃ k, w' = w.drewN k

theorem pow_nat (k : Nat) : ((2 : Int) ^ k) = ((2 ^ k : Nat) : Int) := (Int.natCast_pow 2 k).symm
theorem mask_v (q : Int) (n : Nat) (hq : 0 ≤ q ∧ q < 4294967296) (hn : n ≤ 32) : bits .and .i64 (wrap64 q) (wrap64 (wrap64 (2 ^ n) - 1)) = q % (2 ^ n : Nat) := by
  have hp : 2 ^ n ≤ 4294967296 := Nat.pow_le_pow_right (n := 2) (j := 32) (by decide) hn
  have hp0 := Nat.two_pow_pos n
  have w1 : wrap64 q = q := by unfold wrap64; omega
  have w2 : wrap64 ((2 ^ n : Nat) : Int) = ((2 ^ n : Nat) : Int) := by generalize 2 ^ n = p at *; unfold wrap64; omega
  have w3 : wrap64 (((2 ^ n : Nat) : Int) - 1) = ((2 ^ n - 1 : Nat) : Int) := by generalize 2 ^ n = p at *; unfold wrap64; omega
  rw [pow_nat, w1, w2, w3]
  exact i64_mask n ⟨hq.1, by omega⟩ (by omega)
theorem bits_any (a z1 z2 : Int) (h l : Nat) (ha : W32 a) (hz1 : z1 = h) (hz2 : z2 = l) (hh : h ≤ 31) (hl : l ≤ h) (w : World) :
    Calls Try.prog 55 #[.int .u32 a, .int .i64 z1, .int .i64 z2] w fun e w' => e = .returned (.int .i64 (fd a h l)) ∧ ∃ k, w' = w.drewN k := by
  subst hz1; subst hz2
  have hv : bits .and .i64 (wrap64 (a / 2 ^ l)) (wrap64 (wrap64 (2 ^ (h - l + 1)) - 1)) = fd a h l := by
    rw [mask_v (a / 2 ^ l) (h - l + 1) ⟨Int.ediv_nonneg ha.out.1 (Int.le_of_lt (Int.pow_pos (by decide))), Int.lt_of_le_of_lt (Int.ediv_le_self _ ha.out.1) ha.out.2⟩ (by omega), pow_nat]; rfl
  go_enter Try.func55, Try.ntmps55
  go_wp2
  go_quiet (fail)
  go_wp2
  go_ret
  exact ⟨rfl, _, rfl⟩
theorem signed_v (v : Int) (n : Nat) (h1 : 1 ≤ n) (hn : n ≤ 32) (hv : 0 ≤ v ∧ v < (2 ^ n : Nat)) : wrap64 (v * 2 ^ (64 - n)) / 2 ^ (64 - n) = sx n v := by
  obtain ⟨m, rfl⟩ : ∃ m, n = m + 1 := ⟨n - 1, by omega⟩
  have e0 : ((2 : Int) ^ (64 - (m + 1))) = ((2 ^ (63 - m) : Nat) : Int) := by rw [show 64 - (m + 1) = 63 - m by omega]; exact pow_nat _
  have hm : 2 ^ m * 2 ^ (63 - m) = 9223372036854775808 := by rw [← Nat.pow_add, show m + (63 - m) = 63 by omega]
  have hs : 2 ^ (m + 1) = 2 * 2 ^ m := by rw [Nat.pow_succ]; omega
  have hm' : ((2 ^ m : Nat) : Int) * ((2 ^ (63 - m) : Nat) : Int) = 9223372036854775808 := (Int.natCast_mul _ _).symm.trans (congrArg Int.ofNat hm)
  have hp0 := Nat.two_pow_pos (63 - m)
  rw [e0]
  unfold sx
  simp only [Nat.add_sub_cancel]
  rw [hs] at hv ⊢
  generalize (2 ^ m : Nat) = p at *
  generalize (2 ^ (63 - m) : Nat) = q at *
  have hq : (0 : Int) < (q : Int) := by omega
  by_cases h : v < (p : Int)
  · rw [if_pos h]
    have a1 : 0 ≤ v * q := Int.mul_nonneg hv.1 (by omega)
    have a2 : v * q < 9223372036854775808 := by rw [← hm']; exact Int.mul_lt_mul_of_pos_right h hq
    rw [show wrap64 (v * q) = v * q by unfold wrap64; omega]
    exact Int.mul_ediv_cancel _ (by omega)
  · rw [if_neg h]
    have e3 : (v - ((2 * p : Nat) : Int)) * q = v * q - 18446744073709551616 := by
      rw [Int.sub_mul]
      have : ((2 * p : Nat) : Int) * (q : Int) = 2 * ((p : Int) * q) := by rw [Int.natCast_mul]; exact Int.mul_assoc 2 _ _
      rw [this, hm']
      rfl
    have a1 : 9223372036854775808 ≤ v * q := by rw [← hm']; exact Int.mul_le_mul_of_nonneg_right (by omega) (by omega)
    have a2 : (v - ((2 * p : Nat) : Int)) * q < 0 := Int.mul_neg_of_neg_of_pos (by omega) hq
    rw [show wrap64 (v * q) = (v - ((2 * p : Nat) : Int)) * q by unfold wrap64; omega]
    exact Int.mul_ediv_cancel _ (by omega)
theorem signed_any (v z : Int) (n : Nat) (hz : z = n) (h1 : 1 ≤ n) (hn : n ≤ 32) (hv : 0 ≤ v ∧ v < (2 ^ n : Nat)) (w : World) :
    Calls Try.prog 73 #[.int .i64 v, .int .i64 z] w fun e w' => e = .returned (.int .i64 (sx n v)) ∧ w = w' := by
  subst hz
  have hs := signed_v v n h1 hn hv
  go_enter Try.func73, Try.ntmps73
  go_wp2
  go_ret
  exact ⟨rfl, rfl⟩

theorem op_any (a : Int) (ha : W32 a) (w : World) : Calls Try.prog 37 #[.int .u32 a] w fun e w' => e = .returned (.int .i64 (fd a 6 0)) ∧ ∃ k, w' = w.drewN k := by
  have T := bits_any a 6 0 6 0 ha rfl rfl (by decide) (by decide)
  go_enter Try.func37, Try.ntmps37
  go_wp2_with (go_at_call 55; refine (T _).mono ?_; rintro e w' ⟨rfl, k, rfl⟩)
  go_ret
  exact ⟨rfl, _, rfl⟩
theorem rd_any (a : Int) (ha : W32 a) (w : World) : Calls Try.prog 42 #[.int .u32 a] w fun e w' => e = .returned (.int .i64 (fd a 11 7)) ∧ ∃ k, w' = w.drewN k := by
  have T := bits_any a 11 7 11 7 ha rfl rfl (by decide) (by decide)
  go_enter Try.func42, Try.ntmps42
  go_wp2_with (go_at_call 55; refine (T _).mono ?_; rintro e w' ⟨rfl, k, rfl⟩)
  go_ret
  exact ⟨rfl, _, rfl⟩
theorem f3_any (a : Int) (ha : W32 a) (w : World) : Calls Try.prog 38 #[.int .u32 a] w fun e w' => e = .returned (.int .i64 (fd a 14 12)) ∧ ∃ k, w' = w.drewN k := by
  have T := bits_any a 14 12 14 12 ha rfl rfl (by decide) (by decide)
  go_enter Try.func38, Try.ntmps38
  go_wp2_with (go_at_call 55; refine (T _).mono ?_; rintro e w' ⟨rfl, k, rfl⟩)
  go_ret
  exact ⟨rfl, _, rfl⟩
theorem rs1_any (a : Int) (ha : W32 a) (w : World) : Calls Try.prog 43 #[.int .u32 a] w fun e w' => e = .returned (.int .i64 (fd a 19 15)) ∧ ∃ k, w' = w.drewN k := by
  have T := bits_any a 19 15 19 15 ha rfl rfl (by decide) (by decide)
  go_enter Try.func43, Try.ntmps43
  go_wp2_with (go_at_call 55; refine (T _).mono ?_; rintro e w' ⟨rfl, k, rfl⟩)
  go_ret
  exact ⟨rfl, _, rfl⟩
theorem rs2_any (a : Int) (ha : W32 a) (w : World) : Calls Try.prog 44 #[.int .u32 a] w fun e w' => e = .returned (.int .i64 (fd a 24 20)) ∧ ∃ k, w' = w.drewN k := by
  have T := bits_any a 24 20 24 20 ha rfl rfl (by decide) (by decide)
  go_enter Try.func44, Try.ntmps44
  go_wp2_with (go_at_call 55; refine (T _).mono ?_; rintro e w' ⟨rfl, k, rfl⟩)
  go_ret
  exact ⟨rfl, _, rfl⟩
theorem f7_any (a : Int) (ha : W32 a) (w : World) : Calls Try.prog 56 #[.int .u32 a] w fun e w' => e = .returned (.int .i64 (fd a 31 25)) ∧ ∃ k, w' = w.drewN k := by
  have T := bits_any a 31 25 31 25 ha rfl rfl (by decide) (by decide)
  go_enter Try.func56, Try.ntmps56
  go_wp2_with (go_at_call 55; refine (T _).mono ?_; rintro e w' ⟨rfl, k, rfl⟩)
  go_ret
  exact ⟨rfl, _, rfl⟩
def rawI (a : Int) : Int := fd a 31 20
def immI (a : Int) : Int := sx 12 (rawI a)
theorem rawI_bd (a : Int) : 0 ≤ rawI a ∧ rawI a < (2 ^ 12 : Nat) := by
  unfold rawI
  have b0 := fd_bd a 31 20
  simp only [Nat.reduceSub, Nat.reduceAdd, Nat.reducePow] at *
  omega
def rawS (a : Int) : Int := fd a 31 25 * 32 + fd a 11 7
def immS (a : Int) : Int := sx 12 (rawS a)
theorem rawS_bd (a : Int) : 0 ≤ rawS a ∧ rawS a < (2 ^ 12 : Nat) := by
  unfold rawS
  have b0 := fd_bd a 31 25
  have b1 := fd_bd a 11 7
  simp only [Nat.reduceSub, Nat.reduceAdd, Nat.reducePow] at *
  omega
def rawU (a : Int) : Int := fd a 31 12 * 4096
def immU (a : Int) : Int := sx 32 (rawU a)
theorem rawU_bd (a : Int) : 0 ≤ rawU a ∧ rawU a < (2 ^ 32 : Nat) := by
  unfold rawU
  have b0 := fd_bd a 31 12
  simp only [Nat.reduceSub, Nat.reduceAdd, Nat.reducePow] at *
  omega
def rawB (a : Int) : Int := fd a 31 31 * 4096 + fd a 7 7 * 2048 + fd a 30 25 * 32 + fd a 11 8 * 2
def immB (a : Int) : Int := sx 13 (rawB a)
theorem rawB_bd (a : Int) : 0 ≤ rawB a ∧ rawB a < (2 ^ 13 : Nat) := by
  unfold rawB
  have b0 := fd_bd a 31 31
  have b1 := fd_bd a 7 7
  have b2 := fd_bd a 30 25
  have b3 := fd_bd a 11 8
  simp only [Nat.reduceSub, Nat.reduceAdd, Nat.reducePow] at *
  omega
def rawJ (a : Int) : Int := fd a 31 31 * 1048576 + fd a 19 12 * 4096 + fd a 20 20 * 2048 + fd a 30 21 * 2
def immJ (a : Int) : Int := sx 21 (rawJ a)
theorem rawJ_bd (a : Int) : 0 ≤ rawJ a ∧ rawJ a < (2 ^ 21 : Nat) := by
  unfold rawJ
  have b0 := fd_bd a 31 31
  have b1 := fd_bd a 19 12
  have b2 := fd_bd a 20 20
  have b3 := fd_bd a 30 21
  simp only [Nat.reduceSub, Nat.reduceAdd, Nat.reducePow] at *
  omega
set_option maxHeartbeats 1000000 in
theorem i_any (a : Int) (ha : W32 a) (w : World) : Calls Try.prog 60 #[.int .u32 a] w fun e w' => e = .returned (.int .i64 (immI a)) ∧ ∃ k, w' = w.drewN k := by
  have T0 := bits_any a 31 20 31 20 ha rfl rfl (by decide) (by decide)
  have b0 := fd_bd a 31 20
  have rb := rawI_bd a
  have S := signed_any (rawI a) 12 12 rfl (by decide) (by decide) rb
  have hr : rawI a = rawI a := rfl
  conv at hr => rhs; unfold rawI
  simp only [Nat.reduceSub, Nat.reduceAdd, Nat.reducePow] at b0 rb
  unfold immI
  generalize rawI a = r at *
  generalize hx0 : fd a 31 20 = x0 at T0 b0
  simp only [hx0] at hr
  clear hx0

  have hr2 := hr.symm
  clear hr
  go_enter Try.func60, Try.ntmps60
  go_wp2_with (first | (go_at_call 55; (with_reducible refine (T0 _).mono ?_); rintro e w' ⟨rfl, k, rfl⟩) | (go_at_call 73; (with_reducible refine (S _).mono ?_); rintro e w' ⟨rfl, rfl⟩))
  repeat (go_quiet (first | (go_at_call 55; (with_reducible exact Calls.quiet_of (T0 _))) | (go_at_call 73; exact Calls.quiet_of_same (S _))); try (go_wp2_with (fail)))
  go_ret
  exact ⟨rfl, _, rfl⟩
set_option maxHeartbeats 1000000 in
theorem s_any (a : Int) (ha : W32 a) (w : World) : Calls Try.prog 62 #[.int .u32 a] w fun e w' => e = .returned (.int .i64 (immS a)) ∧ ∃ k, w' = w.drewN k := by
  have T0 := f7_any a ha
  have T1 := rd_any a ha
  have b0 := fd_bd a 31 25
  have b1 := fd_bd a 11 7
  have rb := rawS_bd a
  have S := signed_any (rawS a) 12 12 rfl (by decide) (by decide) rb
  have hr : rawS a = rawS a := rfl
  conv at hr => rhs; unfold rawS
  simp only [Nat.reduceSub, Nat.reduceAdd, Nat.reducePow] at b0 b1 rb
  unfold immS
  generalize rawS a = r at *
  generalize hx0 : fd a 31 25 = x0 at T0 b0
  generalize hx1 : fd a 11 7 = x1 at T1 b1
  simp only [hx0, hx1] at hr
  clear hx0 hx1
  have o1 : bits .or .i64 (x0 * 32) (x1) = x0 * 32 + x1 := i64_orp 5 32 rfl ⟨by omega, by omega⟩ (by omega) ⟨by omega, by omega⟩ (by omega)
  have hr2 := hr.symm
  clear hr
  go_enter Try.func62, Try.ntmps62
  go_wp2_with (first | (go_at_call 56; (with_reducible refine (T0 _).mono ?_); rintro e w' ⟨rfl, k, rfl⟩) | (go_at_call 42; (with_reducible refine (T1 _).mono ?_); rintro e w' ⟨rfl, k, rfl⟩) | (go_at_call 73; (with_reducible refine (S _).mono ?_); rintro e w' ⟨rfl, rfl⟩))
  repeat (go_quiet (first | (go_at_call 56; (with_reducible exact Calls.quiet_of (T0 _))) | (go_at_call 42; (with_reducible exact Calls.quiet_of (T1 _))) | (go_at_call 73; exact Calls.quiet_of_same (S _))); try (go_wp2_with (fail)))
  go_ret
  exact ⟨rfl, _, rfl⟩
set_option maxHeartbeats 1000000 in
theorem u_any (a : Int) (ha : W32 a) (w : World) : Calls Try.prog 58 #[.int .u32 a] w fun e w' => e = .returned (.int .i64 (immU a)) ∧ ∃ k, w' = w.drewN k := by
  have T0 := bits_any a 31 12 31 12 ha rfl rfl (by decide) (by decide)
  have b0 := fd_bd a 31 12
  have rb := rawU_bd a
  have S := signed_any (rawU a) 32 32 rfl (by decide) (by decide) rb
  have hr : rawU a = rawU a := rfl
  conv at hr => rhs; unfold rawU
  simp only [Nat.reduceSub, Nat.reduceAdd, Nat.reducePow] at b0 rb
  unfold immU
  generalize rawU a = r at *
  generalize hx0 : fd a 31 12 = x0 at T0 b0
  simp only [hx0] at hr
  clear hx0

  have hr2 := hr.symm
  clear hr
  go_enter Try.func58, Try.ntmps58
  go_wp2_with (first | (go_at_call 55; (with_reducible refine (T0 _).mono ?_); rintro e w' ⟨rfl, k, rfl⟩) | (go_at_call 73; (with_reducible refine (S _).mono ?_); rintro e w' ⟨rfl, rfl⟩))
  repeat (go_quiet (first | (go_at_call 55; (with_reducible exact Calls.quiet_of (T0 _))) | (go_at_call 73; exact Calls.quiet_of_same (S _))); try (go_wp2_with (fail)))
  go_ret
  exact ⟨rfl, _, rfl⟩
set_option maxHeartbeats 1000000 in
theorem b_any (a : Int) (ha : W32 a) (w : World) : Calls Try.prog 61 #[.int .u32 a] w fun e w' => e = .returned (.int .i64 (immB a)) ∧ ∃ k, w' = w.drewN k := by
  have T0 := bits_any a 31 31 31 31 ha rfl rfl (by decide) (by decide)
  have T1 := bits_any a 7 7 7 7 ha rfl rfl (by decide) (by decide)
  have T2 := bits_any a 30 25 30 25 ha rfl rfl (by decide) (by decide)
  have T3 := bits_any a 11 8 11 8 ha rfl rfl (by decide) (by decide)
  have b0 := fd_bd a 31 31
  have b1 := fd_bd a 7 7
  have b2 := fd_bd a 30 25
  have b3 := fd_bd a 11 8
  have rb := rawB_bd a
  have S := signed_any (rawB a) 13 13 rfl (by decide) (by decide) rb
  have hr : rawB a = rawB a := rfl
  conv at hr => rhs; unfold rawB
  simp only [Nat.reduceSub, Nat.reduceAdd, Nat.reducePow] at b0 b1 b2 b3 rb
  unfold immB
  generalize rawB a = r at *
  generalize hx0 : fd a 31 31 = x0 at T0 b0
  generalize hx1 : fd a 7 7 = x1 at T1 b1
  generalize hx2 : fd a 30 25 = x2 at T2 b2
  generalize hx3 : fd a 11 8 = x3 at T3 b3
  simp only [hx0, hx1, hx2, hx3] at hr
  clear hx0 hx1 hx2 hx3
  have o1 : bits .or .i64 (x0 * 4096) (x1 * 2048) = x0 * 4096 + x1 * 2048 := i64_orp 12 4096 rfl ⟨by omega, by omega⟩ (by omega) ⟨by omega, by omega⟩ (by omega)
  have o2 : bits .or .i64 (x0 * 4096 + x1 * 2048) (x2 * 32) = x0 * 4096 + x1 * 2048 + x2 * 32 := i64_orp 11 2048 rfl ⟨by omega, by omega⟩ (by omega) ⟨by omega, by omega⟩ (by omega)
  have o3 : bits .or .i64 (x0 * 4096 + x1 * 2048 + x2 * 32) (x3 * 2) = x0 * 4096 + x1 * 2048 + x2 * 32 + x3 * 2 := i64_orp 5 32 rfl ⟨by omega, by omega⟩ (by omega) ⟨by omega, by omega⟩ (by omega)
  have hr2 := hr.symm
  clear hr
  go_enter Try.func61, Try.ntmps61
  go_wp2_with (first | (go_at_call 55; (with_reducible refine (T0 _).mono ?_); rintro e w' ⟨rfl, k, rfl⟩) | (go_at_call 55; (with_reducible refine (T1 _).mono ?_); rintro e w' ⟨rfl, k, rfl⟩) | (go_at_call 55; (with_reducible refine (T2 _).mono ?_); rintro e w' ⟨rfl, k, rfl⟩) | (go_at_call 55; (with_reducible refine (T3 _).mono ?_); rintro e w' ⟨rfl, k, rfl⟩) | (go_at_call 73; (with_reducible refine (S _).mono ?_); rintro e w' ⟨rfl, rfl⟩))
  repeat (go_quiet (first | (go_at_call 55; (with_reducible exact Calls.quiet_of (T0 _))) | (go_at_call 55; (with_reducible exact Calls.quiet_of (T1 _))) | (go_at_call 55; (with_reducible exact Calls.quiet_of (T2 _))) | (go_at_call 55; (with_reducible exact Calls.quiet_of (T3 _))) | (go_at_call 73; exact Calls.quiet_of_same (S _))); try (go_wp2_with (fail)))
  go_ret
  exact ⟨rfl, _, rfl⟩
set_option maxHeartbeats 1000000 in
theorem j_any (a : Int) (ha : W32 a) (w : World) : Calls Try.prog 59 #[.int .u32 a] w fun e w' => e = .returned (.int .i64 (immJ a)) ∧ ∃ k, w' = w.drewN k := by
  have T0 := bits_any a 31 31 31 31 ha rfl rfl (by decide) (by decide)
  have T1 := bits_any a 19 12 19 12 ha rfl rfl (by decide) (by decide)
  have T2 := bits_any a 20 20 20 20 ha rfl rfl (by decide) (by decide)
  have T3 := bits_any a 30 21 30 21 ha rfl rfl (by decide) (by decide)
  have b0 := fd_bd a 31 31
  have b1 := fd_bd a 19 12
  have b2 := fd_bd a 20 20
  have b3 := fd_bd a 30 21
  have rb := rawJ_bd a
  have S := signed_any (rawJ a) 21 21 rfl (by decide) (by decide) rb
  have hr : rawJ a = rawJ a := rfl
  conv at hr => rhs; unfold rawJ
  simp only [Nat.reduceSub, Nat.reduceAdd, Nat.reducePow] at b0 b1 b2 b3 rb
  unfold immJ
  generalize rawJ a = r at *
  generalize hx0 : fd a 31 31 = x0 at T0 b0
  generalize hx1 : fd a 19 12 = x1 at T1 b1
  generalize hx2 : fd a 20 20 = x2 at T2 b2
  generalize hx3 : fd a 30 21 = x3 at T3 b3
  simp only [hx0, hx1, hx2, hx3] at hr
  clear hx0 hx1 hx2 hx3
  have o1 : bits .or .i64 (x0 * 1048576) (x1 * 4096) = x0 * 1048576 + x1 * 4096 := i64_orp 20 1048576 rfl ⟨by omega, by omega⟩ (by omega) ⟨by omega, by omega⟩ (by omega)
  have o2 : bits .or .i64 (x0 * 1048576 + x1 * 4096) (x2 * 2048) = x0 * 1048576 + x1 * 4096 + x2 * 2048 := i64_orp 12 4096 rfl ⟨by omega, by omega⟩ (by omega) ⟨by omega, by omega⟩ (by omega)
  have o3 : bits .or .i64 (x0 * 1048576 + x1 * 4096 + x2 * 2048) (x3 * 2) = x0 * 1048576 + x1 * 4096 + x2 * 2048 + x3 * 2 := i64_orp 11 2048 rfl ⟨by omega, by omega⟩ (by omega) ⟨by omega, by omega⟩ (by omega)
  have hr2 := hr.symm
  clear hr
  go_enter Try.func59, Try.ntmps59
  go_wp2_with (first | (go_at_call 55; (with_reducible refine (T0 _).mono ?_); rintro e w' ⟨rfl, k, rfl⟩) | (go_at_call 55; (with_reducible refine (T1 _).mono ?_); rintro e w' ⟨rfl, k, rfl⟩) | (go_at_call 55; (with_reducible refine (T2 _).mono ?_); rintro e w' ⟨rfl, k, rfl⟩) | (go_at_call 55; (with_reducible refine (T3 _).mono ?_); rintro e w' ⟨rfl, k, rfl⟩) | (go_at_call 73; (with_reducible refine (S _).mono ?_); rintro e w' ⟨rfl, rfl⟩))
  repeat (go_quiet (first | (go_at_call 55; (with_reducible exact Calls.quiet_of (T0 _))) | (go_at_call 55; (with_reducible exact Calls.quiet_of (T1 _))) | (go_at_call 55; (with_reducible exact Calls.quiet_of (T2 _))) | (go_at_call 55; (with_reducible exact Calls.quiet_of (T3 _))) | (go_at_call 73; exact Calls.quiet_of_same (S _))); try (go_wp2_with (fail)))
  go_ret
  exact ⟨rfl, _, rfl⟩
theorem none_any (a : Int) (w : World) : Calls Try.prog 63 #[.int .u32 a] w fun e w' => e = .returned (.int .i64 0) ∧ ∃ k, w' = w.drewN k := by
  go_enter Try.func63, Try.ntmps63
  go_wp2
  go_ret
  exact ⟨rfl, 0, rfl⟩
/-! ### the document's -/
theorem rbits_v (q : Int) (n : Nat) (hq : 0 ≤ q ∧ q < 4294967296) (hn : n ≤ 32) : Int.tmod (wrap64 q) (wrap64 (2 ^ n)) = q % (2 ^ n : Nat) := by
  have hp : 2 ^ n ≤ 4294967296 := Nat.pow_le_pow_right (n := 2) (j := 32) (by decide) hn
  have hp0 := Nat.two_pow_pos n
  have w1 : wrap64 q = q := by unfold wrap64; omega
  have w2 : wrap64 ((2 ^ n : Nat) : Int) = ((2 ^ n : Nat) : Int) := by generalize 2 ^ n = p at *; unfold wrap64; omega
  rw [pow_nat, w1, w2]
  exact Int.tmod_eq_emod_of_nonneg hq.1
theorem wrap_pow (n : Nat) (hn : n ≤ 32) : wrap64 ((2 ^ n : Nat) : Int) = ((2 ^ n : Nat) : Int) := by
  have hp : 2 ^ n ≤ 4294967296 := Nat.pow_le_pow_right (n := 2) (j := 32) (by decide) hn
  generalize 2 ^ n = p at *
  unfold wrap64; omega
theorem rbits_any (a z1 z2 : Int) (h l : Nat) (ha : W32 a) (hz1 : z1 = h) (hz2 : z2 = l) (hh : h ≤ 31) (hl : l ≤ h) (w : World) :
    Calls Try.prog 19 #[.int .u32 a, .int .i64 z1, .int .i64 z2] w fun e w' => e = .returned (.int .i64 (fd a h l)) ∧ ∃ k, w' = w.drewN k := by
  subst hz1; subst hz2
  have hv : (wrap64 (a / 2 ^ l)).tmod (wrap64 (2 ^ (h - l + 1))) = fd a h l := by
    rw [rbits_v (a / 2 ^ l) (h - l + 1) ⟨Int.ediv_nonneg ha.out.1 (Int.le_of_lt (Int.pow_pos (by decide))), Int.lt_of_le_of_lt (Int.ediv_le_self _ ha.out.1) ha.out.2⟩ (by omega), pow_nat]; rfl
  have hne : ¬ wrap64 (2 ^ (h - l + 1)) = 0 := by
    rw [pow_nat, wrap_pow _ (by omega)]
    have := Nat.two_pow_pos (h - l + 1)
    omega
  go_enter Try.func19, Try.ntmps19
  go_wp2
  go_ret
  exact ⟨rfl, 0, rfl⟩
theorem rsigned_any (v z : Int) (n : Nat) (hz : z = n) (h1 : 1 ≤ n) (hn : n ≤ 32) (hv : 0 ≤ v ∧ v < (2 ^ n : Nat)) (w : World) :
    Calls Try.prog 33 #[.int .i64 v, .int .i64 z] w fun e w' => e = .returned (.int .i64 (sx n v)) ∧ w = w' := by
  subst hz
  have hp : 2 ^ n ≤ 4294967296 := Nat.pow_le_pow_right (n := 2) (j := 32) (by decide) hn
  have e1 : (wrap64 (2 ^ n)) = ((2 ^ n : Nat) : Int) := by rw [pow_nat, wrap_pow _ hn]
  have e2 : (wrap64 (2 ^ (n - 1))) = ((2 ^ (n - 1) : Nat) : Int) := by rw [pow_nat, wrap_pow _ (by omega)]
  unfold sx
  generalize hx : wrap64 (2 ^ n) = x at e1
  generalize hy : wrap64 (2 ^ (n - 1)) = y at e2
  rw [← e1] at hv
  rw [← e1, ← e2]
  have bx : x ≤ 4294967296 := by omega
  clear e1 e2 hp
  by_cases h : v < y
  · rw [if_pos h]
    go_enter Try.func33, Try.ntmps33
    go_wp2
    go_ret
    exact ⟨rfl, rfl⟩
  · rw [if_neg h]
    have e3 : wrap64 (v - x) = v - x := by unfold wrap64; omega
    go_enter Try.func33, Try.ntmps33
    go_wp2
    go_ret
    exact ⟨rfl, rfl⟩
set_option maxHeartbeats 1000000 in
theorem ri_any (a : Int) (ha : W32 a) (w : World) : Calls Try.prog 22 #[.int .u32 a] w fun e w' => e = .returned (.int .i64 (immI a)) ∧ ∃ k, w' = w.drewN k := by
  have T0 := rbits_any a 31 20 31 20 ha rfl rfl (by decide) (by decide)
  have b0 := fd_bd a 31 20
  have rb := rawI_bd a
  have S := rsigned_any (rawI a) 12 12 rfl (by decide) (by decide) rb
  have hr : rawI a = rawI a := rfl
  conv at hr => rhs; unfold rawI
  simp only [Nat.reduceSub, Nat.reduceAdd, Nat.reducePow] at b0 rb
  unfold immI
  generalize rawI a = r at *
  generalize hx0 : fd a 31 20 = x0 at T0 b0
  simp only [hx0] at hr
  clear hx0
  have hr2 := hr.symm
  clear hr
  go_enter Try.func22, Try.ntmps22
  go_wp2_with (first | (go_at_call 19; (with_reducible refine (T0 _).mono ?_); rintro e w' ⟨rfl, k, rfl⟩) | (go_at_call 33; (with_reducible refine (S _).mono ?_); rintro e w' ⟨rfl, rfl⟩))
  repeat (go_quiet (first | (go_at_call 19; (with_reducible exact Calls.quiet_of (T0 _))) | (go_at_call 33; (with_reducible exact Calls.quiet_of_same (S _)))); try (go_wp2_with (fail)))
  go_ret
  exact ⟨rfl, _, rfl⟩
set_option maxHeartbeats 1000000 in
theorem rs_any (a : Int) (ha : W32 a) (w : World) : Calls Try.prog 25 #[.int .u32 a] w fun e w' => e = .returned (.int .i64 (immS a)) ∧ ∃ k, w' = w.drewN k := by
  have T0 := rbits_any a 31 25 31 25 ha rfl rfl (by decide) (by decide)
  have T1 := rbits_any a 11 7 11 7 ha rfl rfl (by decide) (by decide)
  have b0 := fd_bd a 31 25
  have b1 := fd_bd a 11 7
  have rb := rawS_bd a
  have S := rsigned_any (rawS a) 12 12 rfl (by decide) (by decide) rb
  have hr : rawS a = rawS a := rfl
  conv at hr => rhs; unfold rawS
  simp only [Nat.reduceSub, Nat.reduceAdd, Nat.reducePow] at b0 b1 rb
  unfold immS
  generalize rawS a = r at *
  generalize hx0 : fd a 31 25 = x0 at T0 b0
  generalize hx1 : fd a 11 7 = x1 at T1 b1
  simp only [hx0, hx1] at hr
  clear hx0 hx1
  have hr2 := hr.symm
  clear hr
  go_enter Try.func25, Try.ntmps25
  go_wp2_with (first | (go_at_call 19; (with_reducible refine (T0 _).mono ?_); rintro e w' ⟨rfl, k, rfl⟩) | (go_at_call 19; (with_reducible refine (T1 _).mono ?_); rintro e w' ⟨rfl, k, rfl⟩) | (go_at_call 33; (with_reducible refine (S _).mono ?_); rintro e w' ⟨rfl, rfl⟩))
  repeat (go_quiet (first | (go_at_call 19; (with_reducible exact Calls.quiet_of (T0 _))) | (go_at_call 19; (with_reducible exact Calls.quiet_of (T1 _))) | (go_at_call 33; (with_reducible exact Calls.quiet_of_same (S _)))); try (go_wp2_with (fail)))
  go_ret
  exact ⟨rfl, _, rfl⟩
set_option maxHeartbeats 1000000 in
theorem ru_any (a : Int) (ha : W32 a) (w : World) : Calls Try.prog 20 #[.int .u32 a] w fun e w' => e = .returned (.int .i64 (immU a)) ∧ ∃ k, w' = w.drewN k := by
  have T0 := rbits_any a 31 12 31 12 ha rfl rfl (by decide) (by decide)
  have b0 := fd_bd a 31 12
  have rb := rawU_bd a
  have S := rsigned_any (rawU a) 32 32 rfl (by decide) (by decide) rb
  have hr : rawU a = rawU a := rfl
  conv at hr => rhs; unfold rawU
  simp only [Nat.reduceSub, Nat.reduceAdd, Nat.reducePow] at b0 rb
  unfold immU
  generalize rawU a = r at *
  generalize hx0 : fd a 31 12 = x0 at T0 b0
  simp only [hx0] at hr
  clear hx0
  have hr2 := hr.symm
  clear hr
  go_enter Try.func20, Try.ntmps20
  go_wp2_with (first | (go_at_call 19; (with_reducible refine (T0 _).mono ?_); rintro e w' ⟨rfl, k, rfl⟩) | (go_at_call 33; (with_reducible refine (S _).mono ?_); rintro e w' ⟨rfl, rfl⟩))
  repeat (go_quiet (first | (go_at_call 19; (with_reducible exact Calls.quiet_of (T0 _))) | (go_at_call 33; (with_reducible exact Calls.quiet_of_same (S _)))); try (go_wp2_with (fail)))
  go_ret
  exact ⟨rfl, _, rfl⟩
set_option maxHeartbeats 1000000 in
theorem rb_any (a : Int) (ha : W32 a) (w : World) : Calls Try.prog 24 #[.int .u32 a] w fun e w' => e = .returned (.int .i64 (immB a)) ∧ ∃ k, w' = w.drewN k := by
  have T0 := rbits_any a 31 31 31 31 ha rfl rfl (by decide) (by decide)
  have T1 := rbits_any a 7 7 7 7 ha rfl rfl (by decide) (by decide)
  have T2 := rbits_any a 30 25 30 25 ha rfl rfl (by decide) (by decide)
  have T3 := rbits_any a 11 8 11 8 ha rfl rfl (by decide) (by decide)
  have b0 := fd_bd a 31 31
  have b1 := fd_bd a 7 7
  have b2 := fd_bd a 30 25
  have b3 := fd_bd a 11 8
  have rb := rawB_bd a
  have S := rsigned_any (rawB a) 13 13 rfl (by decide) (by decide) rb
  have hr : rawB a = rawB a := rfl
  conv at hr => rhs; unfold rawB
  simp only [Nat.reduceSub, Nat.reduceAdd, Nat.reducePow] at b0 b1 b2 b3 rb
  unfold immB
  generalize rawB a = r at *
  generalize hx0 : fd a 31 31 = x0 at T0 b0
  generalize hx1 : fd a 7 7 = x1 at T1 b1
  generalize hx2 : fd a 30 25 = x2 at T2 b2
  generalize hx3 : fd a 11 8 = x3 at T3 b3
  simp only [hx0, hx1, hx2, hx3] at hr
  clear hx0 hx1 hx2 hx3
  have hr2 := hr.symm
  clear hr
  go_enter Try.func24, Try.ntmps24
  go_wp2_with (first | (go_at_call 19; (with_reducible refine (T0 _).mono ?_); rintro e w' ⟨rfl, k, rfl⟩) | (go_at_call 19; (with_reducible refine (T1 _).mono ?_); rintro e w' ⟨rfl, k, rfl⟩) | (go_at_call 19; (with_reducible refine (T2 _).mono ?_); rintro e w' ⟨rfl, k, rfl⟩) | (go_at_call 19; (with_reducible refine (T3 _).mono ?_); rintro e w' ⟨rfl, k, rfl⟩) | (go_at_call 33; (with_reducible refine (S _).mono ?_); rintro e w' ⟨rfl, rfl⟩))
  repeat (go_quiet (first | (go_at_call 19; (with_reducible exact Calls.quiet_of (T0 _))) | (go_at_call 19; (with_reducible exact Calls.quiet_of (T1 _))) | (go_at_call 19; (with_reducible exact Calls.quiet_of (T2 _))) | (go_at_call 19; (with_reducible exact Calls.quiet_of (T3 _))) | (go_at_call 33; (with_reducible exact Calls.quiet_of_same (S _)))); try (go_wp2_with (fail)))
  go_ret
  exact ⟨rfl, _, rfl⟩
set_option maxHeartbeats 1000000 in
theorem rj_any (a : Int) (ha : W32 a) (w : World) : Calls Try.prog 21 #[.int .u32 a] w fun e w' => e = .returned (.int .i64 (immJ a)) ∧ ∃ k, w' = w.drewN k := by
  have T0 := rbits_any a 31 31 31 31 ha rfl rfl (by decide) (by decide)
  have T1 := rbits_any a 19 12 19 12 ha rfl rfl (by decide) (by decide)
  have T2 := rbits_any a 20 20 20 20 ha rfl rfl (by decide) (by decide)
  have T3 := rbits_any a 30 21 30 21 ha rfl rfl (by decide) (by decide)
  have b0 := fd_bd a 31 31
  have b1 := fd_bd a 19 12
  have b2 := fd_bd a 20 20
  have b3 := fd_bd a 30 21
  have rb := rawJ_bd a
  have S := rsigned_any (rawJ a) 21 21 rfl (by decide) (by decide) rb
  have hr : rawJ a = rawJ a := rfl
  conv at hr => rhs; unfold rawJ
  simp only [Nat.reduceSub, Nat.reduceAdd, Nat.reducePow] at b0 b1 b2 b3 rb
  unfold immJ
  generalize rawJ a = r at *
  generalize hx0 : fd a 31 31 = x0 at T0 b0
  generalize hx1 : fd a 19 12 = x1 at T1 b1
  generalize hx2 : fd a 20 20 = x2 at T2 b2
  generalize hx3 : fd a 30 21 = x3 at T3 b3
  simp only [hx0, hx1, hx2, hx3] at hr
  clear hx0 hx1 hx2 hx3
  have hr2 := hr.symm
  clear hr
  go_enter Try.func21, Try.ntmps21
  go_wp2_with (first | (go_at_call 19; (with_reducible refine (T0 _).mono ?_); rintro e w' ⟨rfl, k, rfl⟩) | (go_at_call 19; (with_reducible refine (T1 _).mono ?_); rintro e w' ⟨rfl, k, rfl⟩) | (go_at_call 19; (with_reducible refine (T2 _).mono ?_); rintro e w' ⟨rfl, k, rfl⟩) | (go_at_call 19; (with_reducible refine (T3 _).mono ?_); rintro e w' ⟨rfl, k, rfl⟩) | (go_at_call 33; (with_reducible refine (S _).mono ?_); rintro e w' ⟨rfl, rfl⟩))
  repeat (go_quiet (first | (go_at_call 19; (with_reducible exact Calls.quiet_of (T0 _))) | (go_at_call 19; (with_reducible exact Calls.quiet_of (T1 _))) | (go_at_call 19; (with_reducible exact Calls.quiet_of (T2 _))) | (go_at_call 19; (with_reducible exact Calls.quiet_of (T3 _))) | (go_at_call 33; (with_reducible exact Calls.quiet_of_same (S _)))); try (go_wp2_with (fail)))
  go_ret
  exact ⟨rfl, _, rfl⟩
end Go.Proofs.Ytdhmfjcijcdnjaa.Enc
