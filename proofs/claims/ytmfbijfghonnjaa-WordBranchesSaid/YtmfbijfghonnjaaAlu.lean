/- What each operation of the arithmetic answers, as a plain number: the program's own, and the reference's. -/
import Derived.Test.YtmfbijfghonnjaaPAx4
import Derived.Test.YtmfbijfghonnjaaNum
namespace Go.Proofs.Ytmfbijfghonnjaa.Alu
set_option linter.unusedVariables false
set_option linter.unusedSimpArgs false
open Go.RowKit Go.Proofs.Ytmfbijfghonnjaa.PA Go.Proofs.Ytmfbijfghonnjaa.Num Go.Proofs.YtmfbijfghonnjaaW.PrintWords Go.Proofs.YtmfbijfghonnjaaW.PrintLast Go.Proofs.YtmfbijfghonnjaaW.PrintMore

def W32 (x : Int) : Int := if x % 4294967296 < 2147483648 then x % 4294967296 else x % 4294967296 + 18446744069414584320
theorem U_W32 (x : Int) : U (W32 x) := by unfold U W32; split <;> omega
theorem W32_low (x : Int) : W32 (x % 4294967296) = W32 x := by unfold W32; rw [Int.emod_emod_of_dvd _ (Int.dvd_refl _)]
theorem W32_wrap (x : Int) : W32 (IntKind.u64.wrap x) = W32 x := by rw [wU]; unfold W32; rw [Int.emod_emod_of_dvd x (by decide)]
theorem W32_mod (x : Int) : W32 (x % 18446744073709551616) = W32 x := by unfold W32; rw [Int.emod_emod_of_dvd x (by decide)]
theorem W32_eq (x : Int) : W32 x % 4294967296 = x % 4294967296 := by unfold W32; split <;> omega
theorem sg_W32 (x : Int) : sg (W32 x) = wrap32 x := by unfold sg W32 wrap32; (repeat' split) <;> omega
theorem ext_at (x : Int) (h0 : 0 ≤ x) (h1 : x < 4294967296) : word_extended.f x = some (W32 x) := by
  unfold word_extended.f; rw [wrapU64, wU]; congr 1; unfold wrap32 W32; split <;> omega
theorem ext_low (x : Int) : word_extended.f (x % 4294967296) = some (W32 x) := by rw [ext_at _ (by omega) (by omega), W32_low]
theorem W_at {x : Int} (h : U x) : citadelref01_W.f x = some (W32 x) := by
  unfold citadelref01_W.f; rw [tmod_nn h.1]; unfold W32
  by_cases c : x % 4294967296 < 2147483648
  · rw [if_neg (by omega), if_pos c]
  · rw [if_pos (by omega), if_neg c, wU]; congr 1; omega
def sllV (a n : Int) : Int := a * 2 ^ n.toNat % 18446744073709551616
def sraV (a n : Int) : Int := IntKind.u64.wrap (sg a / 2 ^ n.toNat)
def hi (a b : Int) : Int := a * b / 18446744073709551616
def mulhsuV (a b : Int) : Int := if sg a < 0 then (hi a b - b) % 18446744073709551616 else hi a b
def mulhV (a b : Int) : Int := if sg b < 0 then (mulhsuV a b - a) % 18446744073709551616 else mulhsuV a b
def divV (a b : Int) : Int := if b = 0 then 18446744073709551615 else IntKind.u64.wrap (Int.tdiv (sg a) (sg b))
def remV (a b : Int) : Int := if b = 0 then a else IntKind.u64.wrap (Int.tmod (sg a) (sg b))
def divuV (a b : Int) : Int := if b = 0 then 18446744073709551615 else a / b
def remuV (a b : Int) : Int := if b = 0 then a else a % b

/-! ### products -/
theorem hi_core (a0 a1 b0 b1 p q r s : Int) (h : (a1 * 4294967296 + a0) * (b1 * 4294967296 + b0) = s * 18446744073709551616 + (q + r) * 4294967296 + p)
    (hp0 : 0 ≤ p) (hq0 : 0 ≤ q) (hr0 : 0 ≤ r) (hs0 : 0 ≤ s) (hp : p ≤ 18446744065119617025) (hq : q ≤ 18446744065119617025) (hr : r ≤ 18446744065119617025) (hs : s ≤ 18446744065119617025) :
    (s + (q + p / 4294967296) / 4294967296 + ((q + p / 4294967296) % 4294967296 + r) / 4294967296) = (a1 * 4294967296 + a0) * (b1 * 4294967296 + b0) / 18446744073709551616 := by
  rw [h]; omega
theorem mul_bd (x y : Int) (hx0 : 0 ≤ x) (hx : x < 4294967296) (hy0 : 0 ≤ y) (hy : y < 4294967296) : 0 ≤ x * y ∧ x * y ≤ 18446744065119617025 := by
  refine ⟨Int.mul_nonneg hx0 hy0, ?_⟩
  have := Int.mul_le_mul (show x ≤ 4294967295 by omega) (show y ≤ 4294967295 by omega) hy0 (by decide)
  omega
theorem hi_split {a b : Int} (ha : U a) (hb : U b) : ∃ p q r s : Int, a % 4294967296 * (b % 4294967296) = p ∧ a / 4294967296 * (b % 4294967296) = q ∧ a % 4294967296 * (b / 4294967296) = r ∧ a / 4294967296 * (b / 4294967296) = s ∧
    0 ≤ p ∧ 0 ≤ q ∧ 0 ≤ r ∧ 0 ≤ s ∧ p ≤ 18446744065119617025 ∧ q ≤ 18446744065119617025 ∧ r ≤ 18446744065119617025 ∧ s ≤ 18446744065119617025 ∧ hi a b = s + (q + p / 4294967296) / 4294967296 + ((q + p / 4294967296) % 4294967296 + r) / 4294967296 := by
  unfold U at ha hb
  have e1 := mul_bd (a % 4294967296) (b % 4294967296) (by omega) (by omega) (by omega) (by omega)
  have e2 := mul_bd (a / 4294967296) (b % 4294967296) (by omega) (by omega) (by omega) (by omega)
  have e3 := mul_bd (a % 4294967296) (b / 4294967296) (by omega) (by omega) (by omega) (by omega)
  have e4 := mul_bd (a / 4294967296) (b / 4294967296) (by omega) (by omega) (by omega) (by omega)
  refine ⟨_, _, _, _, rfl, rfl, rfl, rfl, e1.1, e2.1, e3.1, e4.1, e1.2, e2.2, e3.2, e4.2, ?_⟩
  rw [hi_core (a % 4294967296) (a / 4294967296) (b % 4294967296) (b / 4294967296) _ _ _ _ ?_ e1.1 e2.1 e3.1 e4.1 e1.2 e2.2 e3.2 e4.2]
  · unfold hi
    rw [show a / 4294967296 * 4294967296 + a % 4294967296 = a by omega, show b / 4294967296 * 4294967296 + b % 4294967296 = b by omega]
  · simp only [Int.add_mul, Int.mul_add]
    generalize a / 4294967296 = x1; generalize a % 4294967296 = x0; generalize b / 4294967296 = y1; generalize b % 4294967296 = y0
    rw [show x1 * 4294967296 * (y1 * 4294967296) = x1 * y1 * 18446744073709551616 by rw [Int.mul_assoc, Int.mul_left_comm 4294967296, ← Int.mul_assoc]; rfl]
    rw [show x0 * (y1 * 4294967296) = x0 * y1 * 4294967296 by rw [Int.mul_assoc], show x1 * 4294967296 * y0 = x1 * y0 * 4294967296 by rw [Int.mul_assoc, Int.mul_comm 4294967296, ← Int.mul_assoc]]
    omega
theorem U_hi {a b : Int} (ha : U a) (hb : U b) : U (hi a b) := by
  obtain ⟨p, q, r, s, _, _, _, _, h1, h2, h3, h4, h5, h6, h7, h8, h⟩ := hi_split ha hb
  rw [h]; unfold U; omega
theorem mul64_at {a b : Int} (ha : U a) (hb : U b) : bits_Mul64.f a b = some (hi a b, a * b % 18446744073709551616) := by
  obtain ⟨p, q, r, s, ep, eq, er, es, h1, h2, h3, h4, h5, h6, h7, h8, h⟩ := hi_split ha hb
  unfold bits_Mul64.f
  simp only [and32 ha, and32 hb, ep, eq, er, es, h, wU]
  rw [show (q % 18446744073709551616 + p % 18446744073709551616 / 4294967296) % 18446744073709551616 = q + p / 4294967296 by omega]
  rw [and32 (show U (q + p / 4294967296) by unfold U; omega)]
  congr 2
  omega
theorem mulhu_at {a b : Int} (ha : U a) (hb : U b) : word_pair_mulhu.f a b = some (hi a b) := by
  unfold word_pair_mulhu.f; rw [mul64_at ha hb]; rfl
theorem High_at {a b : Int} (ha : U a) (hb : U b) : citadelref01_High.f a b = some (hi a b) := by
  obtain ⟨p, q, r, s, ep, eq, er, es, h1, h2, h3, h4, h5, h6, h7, h8, h⟩ := hi_split ha hb
  unfold citadelref01_High.f
  have ha' := ha; have hb' := hb; unfold U at ha' hb'
  simp only [tmod_nn ha.1, tmod_nn hb.1, tdiv_nn ha.1, tdiv_nn hb.1, wU]
  rw [show a / 4294967296 % 18446744073709551616 = a / 4294967296 by omega, show b / 4294967296 % 18446744073709551616 = b / 4294967296 by omega]
  simp only [ep, eq, er, es]
  rw [tdiv_nn (show (0 : Int) ≤ p % 18446744073709551616 by omega)]
  rw [show (q % 18446744073709551616 + p % 18446744073709551616 / 4294967296 % 18446744073709551616) % 18446744073709551616 = q + p / 4294967296 by omega]
  rw [tdiv_nn (show (0 : Int) ≤ q + p / 4294967296 by omega), tmod_nn (show (0 : Int) ≤ q + p / 4294967296 by omega)]
  rw [tdiv_nn (show (0 : Int) ≤ ((q + p / 4294967296) % 4294967296 + r % 18446744073709551616) % 18446744073709551616 by omega), h]
  congr 1
  omega
theorem mulhsu_at {a b : Int} (ha : U a) (hb : U b) : word_pair_mulhsu.f a b = some (mulhsuV a b) := by
  unfold word_pair_mulhsu.f mulhsuV
  rw [mulhu_at ha hb, sg_wrap64 ha]; simp only [Option.bind_some, wU]; split <;> rfl
theorem mulh_at {a b : Int} (ha : U a) (hb : U b) : word_pair_mulh.f a b = some (mulhV a b) := by
  unfold word_pair_mulh.f mulhV
  rw [mulhsu_at ha hb, sg_wrap64 hb]; simp only [Option.bind_some, wU]; split <;> rfl
theorem neg_at {a : Int} (ha : U a) : citadelref01_neg.f a = some (decide (sg a < 0)) := by
  unfold citadelref01_neg.f; congr 1; rw [decide_eq_decide, sg_neg ha]
theorem highS_at {a b : Int} (ha : U a) (hb : U b) (k : Nat) (hk : 0 < k) (sb : Bool) : citadelref01_highSigned.f k a true b sb = some (if sb = true then mulhV a b else mulhsuV a b) := by
  obtain ⟨k, rfl⟩ : ∃ m, k = m + 1 := ⟨k - 1, by omega⟩
  unfold citadelref01_highSigned.f
  rw [High_at ha hb, neg_at ha]
  simp only [Option.bind_some, if_true, citadelref01_highSigned.j0, neg_at hb, wU, decide_eq_true_eq]
  unfold mulhV mulhsuV
  cases sb <;> by_cases h1 : sg a < 0 <;> by_cases h2 : sg b < 0 <;> simp [h1, h2]

/-! ### shifts with the sign -/
theorem sra_l0 (n : Nat) : ∀ (k : Nat) (a m i : Int), U a → 0 ≤ i → m < 64 → i ≤ m → m - i = n → n < k → citadelref01_sra.l0 k a m i = some (halves n a) := by
  induction n with
  | zero =>
    intro k a m i ha h0 h1 h2 h3 hk
    obtain ⟨k, rfl⟩ : ∃ j, k = j + 1 := ⟨k - 1, by omega⟩
    simp only [citadelref01_sra.l0, halves]; rw [if_neg (by omega)]
  | succ n ih =>
    intro k a m i ha h0 h1 h2 h3 hk
    obtain ⟨k, rfl⟩ : ∃ j, k = j + 1 := ⟨k - 1, by omega⟩
    simp only [citadelref01_sra.l0, halves]; rw [if_pos (by omega), half_ref ha, show IntKind.u64.wrap (i + 1) = i + 1 by rw [wU]; omega]
    exact ih k _ m (i + 1) (U_half a) (by omega) (by omega) (by omega) (by omega) (by omega)
theorem sra_at {a : Int} (ha : U a) (n : Int) (h0 : 0 ≤ n) (h1 : n < 64) (k : Nat) (hk : 64 < k) : citadelref01_sra.f k a n = some (sraV a n) := by
  unfold citadelref01_sra.f sraV
  rw [sra_l0 n.toNat k a n 0 ha (by omega) h1 h0 (by omega) (by omega), halves_sg _ a ha]

/-! ### quotients -/
theorem abs_at {a : Int} (ha : U a) : citadelref01_abs.f a = some (ab a) := by
  unfold citadelref01_abs.f
  rw [neg_at ha]; have h := sg_neg ha; unfold U at ha
  simp only [Option.bind_some, decide_eq_true_eq, h]
  unfold ab
  by_cases c : a < 9223372036854775808
  · rw [if_neg (by omega), if_pos c]
  · rw [if_pos (by omega), if_neg c, wU]; congr 1; omega
theorem ab_zero {a : Int} (ha : U a) : ab a = 0 ↔ a = 0 := by unfold U at ha; unfold ab; split <;> omega
theorem rdiv_at {a b : Int} (ha : U a) (hb : U b) : citadelref01_div.f a b = some (divV a b) := by
  unfold citadelref01_div.f divV
  by_cases h : b = 0
  · rw [if_pos h, if_pos h]
  · rw [if_neg h, if_neg h, abs_at ha, abs_at hb, neg_at ha, neg_at hb, quo_sg ha hb]
    have hz : ¬ ab b = 0 := fun e => h ((ab_zero hb).1 e)
    simp only [Option.bind_some, hz, if_false, tdiv_nn (ab_range ha).1, sg_neg ha, sg_neg hb]
    have hr := ab_quo_range ha hb
    generalize ab a / ab b = q at *
    rw [wU, wU, wU]
    by_cases h1 : a < 9223372036854775808 <;> by_cases h2 : b < 9223372036854775808
    · simp [h1, h2, show ¬ 9223372036854775808 ≤ a by omega, show ¬ 9223372036854775808 ≤ b by omega]
    · simp [h1, h2, show ¬ 9223372036854775808 ≤ a by omega, show 9223372036854775808 ≤ b by omega]; omega
    · simp [h1, h2, show 9223372036854775808 ≤ a by omega, show ¬ 9223372036854775808 ≤ b by omega]; omega
    · simp [h1, h2, show 9223372036854775808 ≤ a by omega, show 9223372036854775808 ≤ b by omega]
theorem rrem_at {a b : Int} (ha : U a) (hb : U b) : citadelref01_rem.f a b = some (remV a b) := by
  unfold citadelref01_rem.f remV
  by_cases h : b = 0
  · rw [if_pos h, if_pos h]
  · rw [if_neg h, if_neg h, abs_at ha, abs_at hb, neg_at ha, rem_sg ha hb]
    have hz : ¬ ab b = 0 := fun e => h ((ab_zero hb).1 e)
    simp only [Option.bind_some, hz, if_false, tmod_nn (ab_range ha).1, sg_neg ha]
    have hr := ab_rem_range ha hb hz
    generalize ab a % ab b = q at *
    by_cases h1 : a < 9223372036854775808
    · simp [h1, show ¬ 9223372036854775808 ≤ a by omega, wU_self (show U q by unfold U; omega)]
    · simp only [h1, show 9223372036854775808 ≤ a by omega, decide_true, if_true, if_false]
theorem div_at {a b : Int} (ha : U a) (hb : U b) : word_pair_div.f a b = some (divV a b) := by
  unfold word_pair_div.f divV
  rw [sg_wrap64 hb, sg_wrap64 ha]
  by_cases h : b = 0
  · rw [if_pos h, if_pos h]
  · rw [if_neg h, if_neg h]
    by_cases h1 : sg b = -1
    · rw [if_pos h1, h1]; congr 1; rw [show Int.tdiv (sg a) (-1) = - sg a by rw [Int.tdiv_neg, Int.tdiv_one]]
      have := sg_back ha; rw [wU] at this; rw [wU, wU]; omega
    · rw [if_neg h1, if_neg (by unfold U at hb; unfold sg; split <;> omega), wrapU64]
theorem rem_at {a b : Int} (ha : U a) (hb : U b) : word_pair_rem.f a b = some (remV a b) := by
  unfold word_pair_rem.f remV
  rw [sg_wrap64 hb, sg_wrap64 ha]
  by_cases h : b = 0
  · rw [if_pos h, if_pos h]
  · rw [if_neg h, if_neg h]
    by_cases h1 : sg b = -1
    · rw [if_pos h1, h1]; congr 1; rw [Int.tmod_neg, Int.tmod_one, wU]; rfl
    · rw [if_neg h1, if_neg (by unfold U at hb; unfold sg; split <;> omega)]
theorem divu_at {a b : Int} (ha : U a) (hb : U b) : word_pair_divu.f a b = some (divuV a b) := by
  unfold word_pair_divu.f divuV
  by_cases h : b = 0
  · rw [if_pos h, if_pos h]
  · rw [if_neg h, if_neg h, tdiv_nn ha.1, wU_self (U_div ha b (by unfold U at hb; omega))]
theorem remu_at {a b : Int} (ha : U a) (hb : U b) : word_pair_remu.f a b = some (remuV a b) := by
  unfold word_pair_remu.f remuV; rw [tmod_nn ha.1]; split <;> rfl
theorem U_low (a : Int) : U (a % 4294967296) := by unfold U; omega
theorem U_divV (a b : Int) : U (divV a b) := by
  unfold divV; split
  · unfold U; omega
  · exact U_wrap _
theorem U_remV {a : Int} (ha : U a) (b : Int) : U (remV a b) := by
  unfold remV; split
  · exact ha
  · exact U_wrap _
theorem U_divuV {a b : Int} (ha : U a) (hb : U b) : U (divuV a b) := by
  unfold divuV; split
  · unfold U; omega
  · exact U_div ha b (by unfold U at hb; omega)
theorem U_remuV {a b : Int} (ha : U a) (hb : U b) : U (remuV a b) := by
  unfold remuV; split
  · exact ha
  · exact U_mod ha b hb.1
theorem U_sraV (a n : Int) : U (sraV a n) := U_wrap _
theorem shl_u64 (x n : Int) (h0 : 0 ≤ n) (h1 : n < 64) : shl .u64 x n = x * 2 ^ n.toNat % 18446744073709551616 := by unfold shl; rw [wU, min_small n h0 _ (by show n ≤ 64; omega)]
theorem shr_any (k : IntKind) (x n : Int) (h0 : 0 ≤ n) (h1 : n ≤ k.bits) : shr k x n = x / 2 ^ n.toNat := by unfold shr; rw [min_small n h0 _ h1]

theorem p_add {a b : Int} (ha : U a) (hb : U b) : word_pair_add.f a b = some ((a + b) % 18446744073709551616) := by
  unfold word_pair_add.f; rw [wU]
theorem p_sub {a b : Int} (ha : U a) (hb : U b) : word_pair_sub.f a b = some ((a - b) % 18446744073709551616) := by
  unfold word_pair_sub.f; rw [wU]
theorem p_sll {a b : Int} (ha : U a) (hb : U b) : word_pair_sll.f a b = some (sllV a (b % 64)) := by
  unfold word_pair_sll.f; rw [and63 hb, if_pos (by omega), shl_u64 _ _ (by omega) (by omega)]; rfl
theorem p_slt {a b : Int} (ha : U a) (hb : U b) : word_pair_slt.f a b = some (if sg a < sg b then 1 else 0) := by
  unfold word_pair_slt.f word_truth.f; rw [sg_wrap64 ha, sg_wrap64 hb]; by_cases c : sg a < sg b <;> simp [c]
theorem p_sltu {a b : Int} (ha : U a) (hb : U b) : word_pair_sltu.f a b = some (if a < b then 1 else 0) := by
  unfold word_pair_sltu.f word_truth.f; by_cases c : a < b <;> simp [c]
theorem p_xor {a b : Int} (ha : U a) (hb : U b) : word_pair_xor.f a b = some (bits .xor .u64 a b) := by
  rfl
theorem p_srl {a b : Int} (ha : U a) (hb : U b) : word_pair_srl.f a b = some (a / 2 ^ (b % 64).toNat) := by
  unfold word_pair_srl.f; rw [and63 hb, if_pos (by omega), shr_any _ _ _ (by omega) (by show b % 64 ≤ 64; omega)]
theorem p_sra {a b : Int} (ha : U a) (hb : U b) : word_pair_sra.f a b = some (sraV a (b % 64)) := by
  unfold word_pair_sra.f; rw [and63 hb, if_pos (by omega), shr_any _ _ _ (by omega) (by show b % 64 ≤ 64; omega), sg_wrap64 ha]; rfl
theorem p_or {a b : Int} (ha : U a) (hb : U b) : word_pair_or.f a b = some (bits .or .u64 a b) := by
  rfl
theorem p_and {a b : Int} (ha : U a) (hb : U b) : word_pair_and.f a b = some (bits .and .u64 a b) := by
  rfl
theorem p_mul {a b : Int} (ha : U a) (hb : U b) : word_pair_mul.f a b = some (a * b % 18446744073709551616) := by
  unfold word_pair_mul.f; rw [wU]
theorem p_mulh {a b : Int} (ha : U a) (hb : U b) : word_pair_mulh.f a b = some (mulhV a b) := by
  exact mulh_at ha hb
theorem p_mulhsu {a b : Int} (ha : U a) (hb : U b) : word_pair_mulhsu.f a b = some (mulhsuV a b) := by
  exact mulhsu_at ha hb
theorem p_mulhu {a b : Int} (ha : U a) (hb : U b) : word_pair_mulhu.f a b = some (hi a b) := by
  exact mulhu_at ha hb
theorem p_div {a b : Int} (ha : U a) (hb : U b) : word_pair_div.f a b = some (divV a b) := by
  exact div_at ha hb
theorem p_divu {a b : Int} (ha : U a) (hb : U b) : word_pair_divu.f a b = some (divuV a b) := by
  exact divu_at ha hb
theorem p_rem {a b : Int} (ha : U a) (hb : U b) : word_pair_rem.f a b = some (remV a b) := by
  exact rem_at ha hb
theorem p_remu {a b : Int} (ha : U a) (hb : U b) : word_pair_remu.f a b = some (remuV a b) := by
  exact remu_at ha hb
theorem p_addw {a b : Int} (ha : U a) (hb : U b) : word_pair_addw.f a b = some (W32 (a + b)) := by
  unfold word_pair_addw.f; rw [ext_low]; simp only [Option.bind_some, W32_wrap]
theorem p_subw {a b : Int} (ha : U a) (hb : U b) : word_pair_subw.f a b = some (W32 (a - b)) := by
  unfold word_pair_subw.f; rw [ext_low]; simp only [Option.bind_some, W32_wrap]
theorem p_sllw {a b : Int} (ha : U a) (hb : U b) : word_pair_sllw.f a b = some (W32 (a % 4294967296 * 2 ^ (b % 32).toNat)) := by
  unfold word_pair_sllw.f; rw [and31 hb, if_pos (by omega)]; unfold shl; rw [IntKind.wrap_u32, min_small _ (by omega) _ (by show b % 32 ≤ 32; omega), ext_low]; rfl
theorem p_srlw {a b : Int} (ha : U a) (hb : U b) : word_pair_srlw.f a b = some (W32 (a % 4294967296 / 2 ^ (b % 32).toNat)) := by
  unfold word_pair_srlw.f; rw [and31 hb, if_pos (by omega), shr_any _ _ _ (by omega) (by show b % 32 ≤ 32; omega)]; have hl : 0 ≤ a % 4294967296 := by omega
  have h1 := Int.ediv_nonneg hl (Int.le_of_lt (pow_pos' (b % 32).toNat)); have h2 := Int.ediv_le_self (2 ^ (b % 32).toNat) hl; rw [ext_at _ h1 (by omega)]; rfl
theorem p_sraw {a b : Int} (ha : U a) (hb : U b) : word_pair_sraw.f a b = some (W32 (sraV (W32 a) (b % 32))) := by
  unfold word_pair_sraw.f; rw [and31 hb, if_pos (by omega), shr_any _ _ _ (by omega) (by show b % 32 ≤ 32; omega), ext_low, show wrap32 (a % 4294967296) = wrap32 a by unfold wrap32; omega]; unfold sraV; rw [W32_wrap, sg_W32]; rfl
theorem p_mulw {a b : Int} (ha : U a) (hb : U b) : word_pair_mulw.f a b = some (W32 (a * b)) := by
  unfold word_pair_mulw.f; rw [ext_low]; simp only [Option.bind_some, W32_wrap]
theorem p_divw {a b : Int} (ha : U a) (hb : U b) : word_pair_divw.f a b = some (W32 (divV (W32 a) (W32 b))) := by
  unfold word_pair_divw.f word_pair_signed.f word_pair_low.f; simp only [Option.bind_some, ext_low, div_at (U_W32 a) (U_W32 b)]
theorem p_divuw {a b : Int} (ha : U a) (hb : U b) : word_pair_divuw.f a b = some (W32 (divuV (a % 4294967296) (b % 4294967296))) := by
  unfold word_pair_divuw.f word_pair_low.f; simp only [Option.bind_some, wU_self (U_low a), wU_self (U_low b), ext_low, divu_at (U_low a) (U_low b)]
theorem p_remw {a b : Int} (ha : U a) (hb : U b) : word_pair_remw.f a b = some (W32 (remV (W32 a) (W32 b))) := by
  unfold word_pair_remw.f word_pair_signed.f word_pair_low.f; simp only [Option.bind_some, ext_low, rem_at (U_W32 a) (U_W32 b)]
theorem p_remuw {a b : Int} (ha : U a) (hb : U b) : word_pair_remuw.f a b = some (W32 (remuV (a % 4294967296) (b % 4294967296))) := by
  unfold word_pair_remuw.f word_pair_low.f; simp only [Option.bind_some, wU_self (U_low a), wU_self (U_low b), ext_low, remu_at (U_low a) (U_low b)]
def aluV (fn a b : Int) : Int := if fn = 1 then (a + b) % 18446744073709551616 else (if fn = 2 then (a - b) % 18446744073709551616 else (if fn = 3 then sllV a (b % 64) else (if fn = 4 then (if sg a < sg b then 1 else 0) else (if fn = 5 then (if a < b then 1 else 0) else (if fn = 6 then bits .xor .u64 a b else (if fn = 7 then a / 2 ^ (b % 64).toNat else (if fn = 8 then sraV a (b % 64) else (if fn = 9 then bits .or .u64 a b else (if fn = 10 then bits .and .u64 a b else (if fn = 11 then a * b % 18446744073709551616 else (if fn = 12 then mulhV a b else (if fn = 13 then mulhsuV a b else (if fn = 14 then hi a b else (if fn = 15 then divV a b else (if fn = 16 then divuV a b else (if fn = 17 then remV a b else (if fn = 18 then remuV a b else (if fn = 19 then W32 (a + b) else (if fn = 20 then W32 (a - b) else (if fn = 21 then W32 (a % 4294967296 * 2 ^ (b % 32).toNat) else (if fn = 22 then W32 (a % 4294967296 / 2 ^ (b % 32).toNat) else (if fn = 23 then W32 (sraV (W32 a) (b % 32)) else (if fn = 24 then W32 (a * b) else (if fn = 25 then W32 (divV (W32 a) (W32 b)) else (if fn = 26 then W32 (divuV (a % 4294967296) (b % 4294967296)) else (if fn = 27 then W32 (remV (W32 a) (W32 b)) else (if fn = 28 then W32 (remuV (a % 4294967296) (b % 4294967296)) else (0))))))))))))))))))))))))))))
set_option maxRecDepth 100000 in
theorem word_at (fn : Int) {a b : Int} (ha : U a) (hb : U b) : word_Alu.f fn a b = some (aluV fn a b) := by
  unfold word_Alu.f aluV
  by_cases h1 : fn = 1
  · rw [if_pos h1, if_pos h1]; exact p_add ha hb
  rw [if_neg h1, if_neg h1]
  by_cases h2 : fn = 2
  · rw [if_pos h2, if_pos h2]; exact p_sub ha hb
  rw [if_neg h2, if_neg h2]
  by_cases h3 : fn = 3
  · rw [if_pos h3, if_pos h3]; exact p_sll ha hb
  rw [if_neg h3, if_neg h3]
  by_cases h4 : fn = 4
  · rw [if_pos h4, if_pos h4]; exact p_slt ha hb
  rw [if_neg h4, if_neg h4]
  by_cases h5 : fn = 5
  · rw [if_pos h5, if_pos h5]; exact p_sltu ha hb
  rw [if_neg h5, if_neg h5]
  by_cases h6 : fn = 6
  · rw [if_pos h6, if_pos h6]; exact p_xor ha hb
  rw [if_neg h6, if_neg h6]
  by_cases h7 : fn = 7
  · rw [if_pos h7, if_pos h7]; exact p_srl ha hb
  rw [if_neg h7, if_neg h7]
  by_cases h8 : fn = 8
  · rw [if_pos h8, if_pos h8]; exact p_sra ha hb
  rw [if_neg h8, if_neg h8]
  by_cases h9 : fn = 9
  · rw [if_pos h9, if_pos h9]; exact p_or ha hb
  rw [if_neg h9, if_neg h9]
  by_cases h10 : fn = 10
  · rw [if_pos h10, if_pos h10]; exact p_and ha hb
  rw [if_neg h10, if_neg h10]
  by_cases h11 : fn = 11
  · rw [if_pos h11, if_pos h11]; exact p_mul ha hb
  rw [if_neg h11, if_neg h11]
  by_cases h12 : fn = 12
  · rw [if_pos h12, if_pos h12]; exact p_mulh ha hb
  rw [if_neg h12, if_neg h12]
  by_cases h13 : fn = 13
  · rw [if_pos h13, if_pos h13]; exact p_mulhsu ha hb
  rw [if_neg h13, if_neg h13]
  by_cases h14 : fn = 14
  · rw [if_pos h14, if_pos h14]; exact p_mulhu ha hb
  rw [if_neg h14, if_neg h14]
  by_cases h15 : fn = 15
  · rw [if_pos h15, if_pos h15]; exact p_div ha hb
  rw [if_neg h15, if_neg h15]
  by_cases h16 : fn = 16
  · rw [if_pos h16, if_pos h16]; exact p_divu ha hb
  rw [if_neg h16, if_neg h16]
  by_cases h17 : fn = 17
  · rw [if_pos h17, if_pos h17]; exact p_rem ha hb
  rw [if_neg h17, if_neg h17]
  by_cases h18 : fn = 18
  · rw [if_pos h18, if_pos h18]; exact p_remu ha hb
  rw [if_neg h18, if_neg h18]
  by_cases h19 : fn = 19
  · rw [if_pos h19, if_pos h19]; exact p_addw ha hb
  rw [if_neg h19, if_neg h19]
  by_cases h20 : fn = 20
  · rw [if_pos h20, if_pos h20]; exact p_subw ha hb
  rw [if_neg h20, if_neg h20]
  by_cases h21 : fn = 21
  · rw [if_pos h21, if_pos h21]; exact p_sllw ha hb
  rw [if_neg h21, if_neg h21]
  by_cases h22 : fn = 22
  · rw [if_pos h22, if_pos h22]; exact p_srlw ha hb
  rw [if_neg h22, if_neg h22]
  by_cases h23 : fn = 23
  · rw [if_pos h23, if_pos h23]; exact p_sraw ha hb
  rw [if_neg h23, if_neg h23]
  by_cases h24 : fn = 24
  · rw [if_pos h24, if_pos h24]; exact p_mulw ha hb
  rw [if_neg h24, if_neg h24]
  by_cases h25 : fn = 25
  · rw [if_pos h25, if_pos h25]; exact p_divw ha hb
  rw [if_neg h25, if_neg h25]
  by_cases h26 : fn = 26
  · rw [if_pos h26, if_pos h26]; exact p_divuw ha hb
  rw [if_neg h26, if_neg h26]
  by_cases h27 : fn = 27
  · rw [if_pos h27, if_pos h27]; exact p_remw ha hb
  rw [if_neg h27, if_neg h27]
  by_cases h28 : fn = 28
  · rw [if_pos h28, if_pos h28]; exact p_remuw ha hb
  rw [if_neg h28, if_neg h28]
theorem less_sg {a b : Int} (ha : U a) (hb : U b) : (IntKind.u64.wrap (a + 9223372036854775808) < IntKind.u64.wrap (b + 9223372036854775808)) = (sg a < sg b) := by
  rw [wU, wU]; unfold U at ha hb; unfold sg; (repeat' split) <;> simp <;> omega
set_option maxRecDepth 100000 in
theorem ref_at (k : Nat) (hk : 64 < k) (fn : Int) {a b : Int} (ha : U a) (hb : U b) : citadelref01_Alu.f k fn a b = some (aluV fn a b) := by
  unfold citadelref01_Alu.f aluV
  by_cases h1 : fn = 1
  · rw [if_pos h1, if_pos h1]; rw [wU]
  rw [if_neg h1, if_neg h1]
  by_cases h2 : fn = 2
  · rw [if_pos h2, if_pos h2]; rw [wU]
  rw [if_neg h2, if_neg h2]
  by_cases h3 : fn = 3
  · rw [if_pos h3, if_pos h3]; rw [tmod_nn hb.1, if_pos (by omega), shl_u64 _ _ (by omega) (by omega)]; rfl
  rw [if_neg h3, if_neg h3]
  by_cases h4 : fn = 4
  · rw [if_pos h4, if_pos h4]; unfold citadelref01_less.f citadelref01_bit.f; have e : (IntKind.u64.wrap (a + 9223372036854775808) < IntKind.u64.wrap (b + 9223372036854775808)) = (sg a < sg b) := less_sg ha hb
    simp only [Option.bind_some, e]; by_cases c : sg a < sg b <;> simp [c]
  rw [if_neg h4, if_neg h4]
  by_cases h5 : fn = 5
  · rw [if_pos h5, if_pos h5]; unfold citadelref01_bit.f; by_cases c : a < b <;> simp [c]
  rw [if_neg h5, if_neg h5]
  by_cases h6 : fn = 6
  · rw [if_pos h6, if_pos h6]
  rw [if_neg h6, if_neg h6]
  by_cases h7 : fn = 7
  · rw [if_pos h7, if_pos h7]; rw [tmod_nn hb.1, if_pos (by omega), shr_any _ _ _ (by omega) (by show b % 64 ≤ 64; omega)]
  rw [if_neg h7, if_neg h7]
  by_cases h8 : fn = 8
  · rw [if_pos h8, if_pos h8]; rw [tmod_nn hb.1, sra_at ha _ (by omega) (by omega) k (by omega)]; rfl
  rw [if_neg h8, if_neg h8]
  by_cases h9 : fn = 9
  · rw [if_pos h9, if_pos h9]
  rw [if_neg h9, if_neg h9]
  by_cases h10 : fn = 10
  · rw [if_pos h10, if_pos h10]
  rw [if_neg h10, if_neg h10]
  by_cases h11 : fn = 11
  · rw [if_pos h11, if_pos h11]; rw [wU]
  rw [if_neg h11, if_neg h11]
  by_cases h12 : fn = 12
  · rw [if_pos h12, if_pos h12]; rw [highS_at ha hb k (by omega)]; simp
  rw [if_neg h12, if_neg h12]
  by_cases h13 : fn = 13
  · rw [if_pos h13, if_pos h13]; rw [highS_at ha hb k (by omega)]; simp
  rw [if_neg h13, if_neg h13]
  by_cases h14 : fn = 14
  · rw [if_pos h14, if_pos h14]; rw [High_at ha hb]; rfl
  rw [if_neg h14, if_neg h14]
  by_cases h15 : fn = 15
  · rw [if_pos h15, if_pos h15]; rw [rdiv_at ha hb]; rfl
  rw [if_neg h15, if_neg h15]
  by_cases h16 : fn = 16
  · rw [if_pos h16, if_pos h16]; unfold divuV; split
    · rfl
    · rw [tdiv_nn ha.1, wU_self (U_div ha b (by unfold U at hb; omega))]
  rw [if_neg h16, if_neg h16]
  by_cases h17 : fn = 17
  · rw [if_pos h17, if_pos h17]; rw [rrem_at ha hb]; rfl
  rw [if_neg h17, if_neg h17]
  by_cases h18 : fn = 18
  · rw [if_pos h18, if_pos h18]; unfold remuV; rw [tmod_nn ha.1]; split <;> rfl
  rw [if_neg h18, if_neg h18]
  by_cases h19 : fn = 19
  · rw [if_pos h19, if_pos h19]; rw [W_at (U_wrap _), W32_wrap]; rfl
  rw [if_neg h19, if_neg h19]
  by_cases h20 : fn = 20
  · rw [if_pos h20, if_pos h20]; rw [W_at (U_wrap _), W32_wrap]; rfl
  rw [if_neg h20, if_neg h20]
  by_cases h21 : fn = 21
  · rw [if_pos h21, if_pos h21]; rw [tmod_nn hb.1, tmod_nn ha.1, if_pos (by omega), shl_u64 _ _ (by omega) (by omega), W_at (by unfold U; omega), W32_mod]; rfl
  rw [if_neg h21, if_neg h21]
  by_cases h22 : fn = 22
  · rw [if_pos h22, if_pos h22]; rw [tmod_nn hb.1, tmod_nn ha.1, if_pos (by omega), shr_any _ _ _ (by omega) (by show b % 32 ≤ 64; omega), W_at (U_div (U_low a) _ (pow_pos' _))]; rfl
  rw [if_neg h22, if_neg h22]
  by_cases h23 : fn = 23
  · rw [if_pos h23, if_pos h23]; rw [tmod_nn hb.1, W_at ha]; simp only [Option.bind_some]; rw [sra_at (U_W32 a) _ (by omega) (by omega) k (by omega)]; simp only [Option.bind_some]; rw [W_at (U_sraV _ _)]; rfl
  rw [if_neg h23, if_neg h23]
  by_cases h24 : fn = 24
  · rw [if_pos h24, if_pos h24]; rw [W_at (U_wrap _), W32_wrap]; rfl
  rw [if_neg h24, if_neg h24]
  by_cases h25 : fn = 25
  · rw [if_pos h25, if_pos h25]; rw [W_at ha, W_at hb]; simp only [Option.bind_some]; rw [rdiv_at (U_W32 a) (U_W32 b)]; simp only [Option.bind_some]; rw [W_at (U_divV _ _)]; rfl
  rw [if_neg h25, if_neg h25]
  by_cases h26 : fn = 26
  · rw [if_pos h26, if_pos h26]; rw [tmod_nn ha.1, tmod_nn hb.1, tdiv_nn (U_low a).1]; unfold divuV; split
    · rfl
    · rw [wU_self (U_div (U_low a) _ (by omega)), W_at (U_div (U_low a) _ (by omega))]; rfl
  rw [if_neg h26, if_neg h26]
  by_cases h27 : fn = 27
  · rw [if_pos h27, if_pos h27]; rw [W_at ha, W_at hb]; simp only [Option.bind_some]; rw [rrem_at (U_W32 a) (U_W32 b)]; simp only [Option.bind_some]; rw [W_at (U_remV (U_W32 a) _)]; rfl
  rw [if_neg h27, if_neg h27]
  by_cases h28 : fn = 28
  · rw [if_pos h28, if_pos h28]; rw [tmod_nn ha.1, tmod_nn hb.1, tmod_nn (U_low a).1]; unfold remuV; split
    · rw [W_at ha, W32_low]; rfl
    · rw [W_at (U_mod (U_low a) _ (by omega))]; rfl
  rw [if_neg h28, if_neg h28]
theorem U_mulhsuV {a b : Int} (ha : U a) (hb : U b) : U (mulhsuV a b) := by
  unfold mulhsuV; split
  · unfold U; omega
  · exact U_hi ha hb
theorem U_mulhV {a b : Int} (ha : U a) (hb : U b) : U (mulhV a b) := by
  unfold mulhV; split
  · unfold U; omega
  · exact U_mulhsuV ha hb
theorem U_aluV (fn : Int) {a b : Int} (ha : U a) (hb : U b) : U (aluV fn a b) := by
  unfold aluV
  by_cases h1 : fn = 1
  · rw [if_pos h1]; unfold U; omega
  rw [if_neg h1]
  by_cases h2 : fn = 2
  · rw [if_pos h2]; unfold U; omega
  rw [if_neg h2]
  by_cases h3 : fn = 3
  · rw [if_pos h3]; unfold sllV U; omega
  rw [if_neg h3]
  by_cases h4 : fn = 4
  · rw [if_pos h4]; unfold U; split <;> omega
  rw [if_neg h4]
  by_cases h5 : fn = 5
  · rw [if_pos h5]; unfold U; split <;> omega
  rw [if_neg h5]
  by_cases h6 : fn = 6
  · rw [if_pos h6]; exact U_xor ha hb
  rw [if_neg h6]
  by_cases h7 : fn = 7
  · rw [if_pos h7]; exact U_div ha _ (pow_pos' _)
  rw [if_neg h7]
  by_cases h8 : fn = 8
  · rw [if_pos h8]; exact U_sraV _ _
  rw [if_neg h8]
  by_cases h9 : fn = 9
  · rw [if_pos h9]; exact U_or ha hb
  rw [if_neg h9]
  by_cases h10 : fn = 10
  · rw [if_pos h10]; exact U_and ha hb
  rw [if_neg h10]
  by_cases h11 : fn = 11
  · rw [if_pos h11]; unfold U; omega
  rw [if_neg h11]
  by_cases h12 : fn = 12
  · rw [if_pos h12]; exact U_mulhV ha hb
  rw [if_neg h12]
  by_cases h13 : fn = 13
  · rw [if_pos h13]; exact U_mulhsuV ha hb
  rw [if_neg h13]
  by_cases h14 : fn = 14
  · rw [if_pos h14]; exact U_hi ha hb
  rw [if_neg h14]
  by_cases h15 : fn = 15
  · rw [if_pos h15]; exact U_divV _ _
  rw [if_neg h15]
  by_cases h16 : fn = 16
  · rw [if_pos h16]; exact U_divuV ha hb
  rw [if_neg h16]
  by_cases h17 : fn = 17
  · rw [if_pos h17]; exact U_remV ha _
  rw [if_neg h17]
  by_cases h18 : fn = 18
  · rw [if_pos h18]; exact U_remuV ha hb
  rw [if_neg h18]
  by_cases h19 : fn = 19
  · rw [if_pos h19]; exact U_W32 _
  rw [if_neg h19]
  by_cases h20 : fn = 20
  · rw [if_pos h20]; exact U_W32 _
  rw [if_neg h20]
  by_cases h21 : fn = 21
  · rw [if_pos h21]; exact U_W32 _
  rw [if_neg h21]
  by_cases h22 : fn = 22
  · rw [if_pos h22]; exact U_W32 _
  rw [if_neg h22]
  by_cases h23 : fn = 23
  · rw [if_pos h23]; exact U_W32 _
  rw [if_neg h23]
  by_cases h24 : fn = 24
  · rw [if_pos h24]; exact U_W32 _
  rw [if_neg h24]
  by_cases h25 : fn = 25
  · rw [if_pos h25]; exact U_W32 _
  rw [if_neg h25]
  by_cases h26 : fn = 26
  · rw [if_pos h26]; exact U_W32 _
  rw [if_neg h26]
  by_cases h27 : fn = 27
  · rw [if_pos h27]; exact U_W32 _
  rw [if_neg h27]
  by_cases h28 : fn = 28
  · rw [if_pos h28]; exact U_W32 _
  rw [if_neg h28]
  unfold U; omega
end Go.Proofs.Ytmfbijfghonnjaa.Alu
