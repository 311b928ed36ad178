/- Plain lemmas on whole numbers: wraps, masks, shifts, quotients. No program in sight. -/
import Derived.RowKit
import Derived.OpenShut
import Derived.Laws.BitsLemmas
import Derived.Laws.BitsAllLaws
import Derived.Test.YtmfbijfghonnjaaWMore
namespace Go.Proofs.Ytmfbijfghonnjaa.Num
set_option linter.unusedVariables false
set_option linter.unusedSimpArgs false
open Go.RowKit Go.Proofs.YtmfbijfghonnjaaW.PrintMore

def U (a : Int) : Prop := 0 ≤ a ∧ a < 18446744073709551616
theorem U_wf {a : Int} (h : (Lit.int .u64 a).wf = true) : U a := by
  have := bounds_u64 h
  unfold U; omega
theorem wU (n : Int) : IntKind.u64.wrap n = n % 18446744073709551616 := by simp [IntKind.wrap, IntKind.bits, IntKind.signed]
theorem wU_self {n : Int} (h : U n) : IntKind.u64.wrap n = n := by rw [wU]; unfold U at h; omega
theorem U_wrap (n : Int) : U (IntKind.u64.wrap n) := by rw [wU]; unfold U; omega
theorem wrapU64 (n : Int) : IntKind.u64.wrap (wrap64 n) = IntKind.u64.wrap n := by rw [wU, wU]; unfold wrap64; omega
/-- The number with its sign. -/
def sg (a : Int) : Int := if a < 9223372036854775808 then a else a - 18446744073709551616
theorem sg_wrap64 {a : Int} (h : U a) : wrap64 a = sg a := by unfold U at h; unfold wrap64 sg; split <;> omega
theorem sg_back {a : Int} (h : U a) : IntKind.u64.wrap (sg a) = a := by rw [wU]; unfold U at h; unfold sg; split <;> omega
theorem sg_range {a : Int} (h : U a) : -9223372036854775808 ≤ sg a ∧ sg a < 9223372036854775808 := by unfold U at h; unfold sg; split <;> omega
theorem sg_neg {a : Int} (h : U a) : (sg a < 0) = (9223372036854775808 ≤ a) := by unfold U at h; unfold sg; split <;> simp <;> omega
theorem sg_wrap (x : Int) (h0 : -9223372036854775808 ≤ x) (h1 : x < 9223372036854775808) : sg (IntKind.u64.wrap x) = x := by rw [wU]; unfold sg; split <;> omega

theorem and_mask (j : Nat) (hj : j ≤ 64) {x : Int} (h : U x) : bits .and .u64 x ((2 ^ j - 1 : Nat) : Int) = x % (2 ^ j : Nat) := by
  unfold U at h
  have hp : 2 ^ j - 1 < 18446744073709551616 := by
    have : 2 ^ j ≤ 2 ^ 64 := Nat.pow_le_pow_right (by decide) hj
    omega
  rw [u64_and x _ h.1 h.2 (by omega) (by omega), Int.toNat_natCast, Nat.and_two_pow_sub_one_eq_mod]
  obtain ⟨n, rfl⟩ := Int.eq_ofNat_of_zero_le h.1
  rw [Int.toNat_natCast]; rfl
theorem and63 {x : Int} (h : U x) : bits .and .u64 x 63 = x % 64 := and_mask 6 (by decide) h
theorem and31 {x : Int} (h : U x) : bits .and .u64 x 31 = x % 32 := and_mask 5 (by decide) h
theorem and32 {x : Int} (h : U x) : bits .and .u64 x 4294967295 = x % 4294967296 := and_mask 32 (by decide) h
theorem tmod_nn {a b : Int} (h : 0 ≤ a) : Int.tmod a b = a % b := Int.tmod_eq_emod_of_nonneg h
theorem tdiv_nn {a b : Int} (h : 0 ≤ a) : Int.tdiv a b = a / b := Int.tdiv_eq_ediv_of_nonneg h
theorem U_xor {a b : Int} (ha : U a) (hb : U b) : U (bits .xor .u64 a b) := by
  unfold U at *
  rw [u64_xor a b ha.1 ha.2 hb.1 hb.2]
  have : a.toNat ^^^ b.toNat < 2 ^ 64 := Nat.xor_lt_two_pow (by omega) (by omega)
  omega
theorem U_or {a b : Int} (ha : U a) (hb : U b) : U (bits .or .u64 a b) := by
  unfold U at *
  rw [u64_or a b ha.1 ha.2 hb.1 hb.2]
  have : a.toNat ||| b.toNat < 2 ^ 64 := Nat.or_lt_two_pow (by omega) (by omega)
  omega
theorem U_and {a b : Int} (ha : U a) (hb : U b) : U (bits .and .u64 a b) := by
  unfold U at *
  rw [u64_and a b ha.1 ha.2 hb.1 hb.2]
  have : a.toNat &&& b.toNat < 2 ^ 64 := Nat.and_lt_two_pow _ (by omega)
  omega
theorem min_small (n : Int) (h0 : 0 ≤ n) (k : Nat) (h : n ≤ k) : min n.toNat k = n.toNat := Nat.min_eq_left (by omega)
theorem pow_pos' (n : Nat) : (0 : Int) < 2 ^ n := by exact_mod_cast Nat.two_pow_pos n
theorem U_div {a : Int} (h : U a) (b : Int) (hb : 0 < b) : U (a / b) := by
  unfold U at *
  have h1 := Int.ediv_nonneg h.1 (Int.le_of_lt hb)
  have h2 : a / b ≤ a := Int.ediv_le_self b h.1
  omega
theorem U_mod {a : Int} (h : U a) (b : Int) (hb : 0 ≤ b) : U (a % b) := by
  unfold U at *
  by_cases h0 : b = 0
  · subst h0; simpa using h
  · have h1 := Int.emod_nonneg a h0
    have h2 : a % b ≤ a := by
      have := Int.emod_emod_of_dvd
      rcases Int.lt_or_le a b with h3 | h3
      · rw [Int.emod_eq_of_lt h.1 h3]; exact Int.le_refl _
      · have := Int.emod_lt_of_pos a (by omega : 0 < b); omega
    omega
/-- A step of the shift with the sign. -/
def half (a : Int) : Int := IntKind.u64.wrap (sg a / 2)
theorem half_ref {a : Int} (h : U a) : IntKind.u64.wrap (IntKind.u64.wrap (Int.tdiv a 2) + IntKind.u64.wrap (IntKind.u64.wrap (Int.tdiv a 9223372036854775808) * 9223372036854775808)) = half a := by
  unfold half U at *
  rw [tdiv_nn h.1, tdiv_nn h.1]
  simp only [wU]
  unfold sg
  split <;> omega
theorem U_half (a : Int) : U (half a) := U_wrap _
theorem sg_half {a : Int} (h : U a) : sg (half a) = sg a / 2 := by
  have := sg_range h
  exact sg_wrap _ (by omega) (by omega)
def halves : Nat → Int → Int
  | 0, a => a
  | n + 1, a => halves n (half a)
theorem halves_sg (n : Nat) : ∀ a, U a → halves n a = IntKind.u64.wrap (sg a / 2 ^ n) := by
  induction n with
  | zero => intro a h; simp only [halves]; rw [show (2 : Int) ^ 0 = 1 from rfl, Int.ediv_one, sg_back h]
  | succ n ih =>
    intro a h
    simp only [halves]
    rw [ih _ (U_half a), sg_half h, Int.ediv_ediv_of_nonneg (by decide), Int.pow_succ, Int.mul_comm 2]

/-! ### quotients with signs -/
def ab (a : Int) : Int := if a < 9223372036854775808 then a else 18446744073709551616 - a
theorem ab_range {a : Int} (h : U a) : 0 ≤ ab a ∧ ab a ≤ 9223372036854775808 := by unfold U at h; unfold ab; split <;> omega
theorem ab_sg {a : Int} (h : U a) : sg a = if a < 9223372036854775808 then ab a else - ab a := by unfold sg ab; split <;> omega
theorem quo_sg {a b : Int} (ha : U a) (hb : U b) : Int.tdiv (sg a) (sg b) = if (a < 9223372036854775808) = (b < 9223372036854775808) then ab a / ab b else - (ab a / ab b) := by
  have hA := (ab_range ha).1
  rw [ab_sg ha, ab_sg hb]
  have e := tdiv_nn (b := ab b) hA
  by_cases h1 : a < 9223372036854775808 <;> by_cases h2 : b < 9223372036854775808 <;> simp [h1, h2, Int.neg_tdiv, Int.tdiv_neg, e]
theorem rem_sg {a b : Int} (ha : U a) (_hb : U b) : Int.tmod (sg a) (sg b) = if a < 9223372036854775808 then ab a % ab b else - (ab a % ab b) := by
  have hA := (ab_range ha).1
  have e : ∀ x, Int.tmod x (sg b) = Int.tmod x (ab b) := by
    intro x
    rw [ab_sg _hb]; split
    · rfl
    · rw [Int.tmod_neg]
  rw [e, ab_sg ha]
  split
  · rw [tmod_nn hA]
  · rw [Int.neg_tmod, tmod_nn hA]
theorem ab_quo_range {a b : Int} (ha : U a) (hb : U b) : 0 ≤ ab a / ab b ∧ ab a / ab b ≤ 9223372036854775808 := by
  have hA := ab_range ha; have hB := ab_range hb
  have := Int.ediv_nonneg hA.1 hB.1
  have := Int.ediv_le_self (ab b) hA.1
  omega
theorem ab_rem_range {a b : Int} (ha : U a) (hb : U b) (h0 : ab b ≠ 0) : 0 ≤ ab a % ab b ∧ ab a % ab b < 9223372036854775808 := by
  have hB := ab_range hb
  have := Int.emod_nonneg (ab a) h0
  have := Int.emod_lt_of_pos (ab a) (by omega : 0 < ab b)
  omega
end Go.Proofs.Ytmfbijfghonnjaa.Num
