/- The plain laws of the arithmetic, third part: quotients with their rests; shifts there and back. -/
import Derived.Test.YtmfbijfghonnjaaLawsB
namespace Go.Proofs.Ytmfbijfghonnjaa.LawsC
set_option linter.unusedVariables false
set_option linter.unusedSimpArgs false
open Go.RowKit Go.Proofs.Ytmfbijfghonnjaa.PA Go.Proofs.Ytmfbijfghonnjaa.Num Go.Proofs.Ytmfbijfghonnjaa.Alu Go.Proofs.Ytmfbijfghonnjaa.Laws Go.Proofs.Ytmfbijfghonnjaa.LawsB Go.Proofs.YtmfbijfghonnjaaW.PrintWords Go.Proofs.YtmfbijfghonnjaaW.PrintLast Go.Proofs.YtmfbijfghonnjaaW.PrintMore

theorem aluV15 (a b : Int) : aluV 15 a b = divV a b := by unfold aluV; simp
theorem aluV16 (a b : Int) : aluV 16 a b = divuV a b := by unfold aluV; simp
theorem aluV17 (a b : Int) : aluV 17 a b = remV a b := by unfold aluV; simp
theorem aluV18 (a b : Int) : aluV 18 a b = remuV a b := by unfold aluV; simp
theorem aluV25 (a b : Int) : aluV 25 a b = W32 (divV (W32 a) (W32 b)) := by unfold aluV; simp
theorem aluV26 (a b : Int) : aluV 26 a b = W32 (divuV (a % 4294967296) (b % 4294967296)) := by unfold aluV; simp
theorem aluV27 (a b : Int) : aluV 27 a b = W32 (remV (W32 a) (W32 b)) := by unfold aluV; simp
theorem aluV28 (a b : Int) : aluV 28 a b = W32 (remuV (a % 4294967296) (b % 4294967296)) := by unfold aluV; simp
theorem sg_mod {b : Int} (hb : U b) : b % 18446744073709551616 = sg b % 18446744073709551616 := by unfold U at hb; unfold sg; split <;> omega
theorem back_signed {a b : Int} (ha : U a) (hb : U b) (h : b ≠ 0) : (divV a b * b + remV a b) % 18446744073709551616 = a := by
  unfold divV remV
  rw [if_neg h, if_neg h, wU, wU, Int.add_emod, Int.mul_emod, Int.emod_emod, Int.emod_emod, sg_mod hb, ← Int.mul_emod, ← Int.add_emod, Int.mul_comm, Int.mul_tdiv_add_tmod]
  rw [← sg_mod ha]; unfold U at ha; omega
theorem back_unsigned {a b : Int} (ha : U a) (hb : U b) (h : b ≠ 0) : divuV a b * b + remuV a b = a := by
  unfold divuV remuV
  rw [if_neg h, if_neg h, Int.mul_comm]; exact Int.mul_ediv_add_emod a b
theorem low_back (q r a b B : Int) (hB : B % 4294967296 = b % 4294967296) (h : (q * B + r) % 4294967296 = a % 4294967296) : ((W32 q % 4294967296) * (b % 4294967296) % 4294967296 + W32 r % 4294967296) % 4294967296 = a % 4294967296 := by
  rw [W32_eq, W32_eq, ← hB, ← Int.mul_emod, ← Int.add_emod]; exact h
theorem W32_zero {b : Int} (h : b % 4294967296 ≠ 0) : W32 b ≠ 0 := by have := W32_eq b; intro e; rw [e] at this; omega
theorem WordDivides : citadellaw01_WordDivides.Pure := by
  intro a b ha hb
  have ha := U_wf ha; have hb := U_wf hb
  refine ⟨1, ?_⟩
  unfold citadellaw01_WordDivides.f
  simp only [word_at _ ha hb, Option.bind_some, aluV15, aluV16, aluV17, aluV18, wU]
  by_cases h : b = 0
  · rw [if_pos h]; subst h
    simp only [divV, divuV, remV, remuV, if_true, awake_at, Option.bind_some]
  rw [if_neg h]
  have e1 := back_signed ha hb h
  have e2 := back_unsigned ha hb h
  have em : ∀ x y : Int, (x % 18446744073709551616 + y) % 18446744073709551616 = (x + y) % 18446744073709551616 := by intro x y; omega
  rw [em, if_pos e1, em, if_pos (by rw [e2]; unfold U at ha; omega)]
  have hr : ¬ remuV a b ≥ b := by
    unfold remuV; rw [if_neg h]; have := Int.emod_lt_of_pos a (show 0 < b by unfold U at hb; omega); omega
  rw [decide_eq_false hr]
  simp only [citadellaw01_WordDivides.j0, word_at _ ha hb, Option.bind_some, Bool.false_eq_true, if_false, aluV25, aluV26, aluV27, aluV28]
  by_cases h2 : b % 4294967296 = 0
  · rw [if_pos h2, awake_at]; rfl
  rw [if_neg h2]
  have hA := U_W32 a; have hB := U_W32 b
  have s := back_signed hA hB (W32_zero h2)
  have u := back_unsigned (U_low a) (U_low b) h2
  rw [if_pos (low_back _ _ a b (W32 b) (W32_eq b) (by rw [← W32_eq a]; omega)), if_pos (low_back _ _ a b (b % 4294967296) (by omega) (by rw [u]; omega)), awake_at]; rfl

theorem aluV3 (a b : Int) : aluV 3 a b = a * 2 ^ (b % 64).toNat % 18446744073709551616 := by unfold aluV sllV; simp
theorem aluV7 (a b : Int) : aluV 7 a b = a / 2 ^ (b % 64).toNat := by unfold aluV; simp
theorem aluV8 (a b : Int) : aluV 8 a b = IntKind.u64.wrap (sg a / 2 ^ (b % 64).toNat) := by unfold aluV sraV; simp
theorem sg_div {a : Int} (ha : U a) (n : Nat) : sg (IntKind.u64.wrap (sg a / 2 ^ n)) = sg a / 2 ^ n := by
  have hr := sg_range ha
  have hp := pow_pos' n
  generalize (2 : Int) ^ n = p at *
  refine sg_wrap _ ?_ ?_
  · have := Int.le_ediv_of_mul_le hp (show (-9223372036854775808 : Int) * p ≤ sg a by
      have : (-9223372036854775808 : Int) * p ≤ -9223372036854775808 * 1 := Int.mul_le_mul_of_nonpos_left (by decide) (by omega)
      omega)
    omega
  · have := Int.ediv_lt_of_lt_mul hp (show sg a < 9223372036854775808 * p by
      have : (9223372036854775808 : Int) * 1 ≤ 9223372036854775808 * p := Int.mul_le_mul_of_nonneg_left (by omega) (by decide)
      omega)
    omega
theorem WordShifts : citadellaw01_WordShifts.Pure := by
  intro a n ha hn
  have ha := U_wf ha; have hn := U_wf hn
  refine ⟨1, ?_⟩
  unfold citadellaw01_WordShifts.f
  rw [tmod_nn hn.1]
  have hk : U (n % 64) := by unfold U; omega
  have hkk : n % 64 % 64 = n % 64 := by omega
  have h0 : 0 ≤ n % 64 := by omega
  have h1 : n % 64 < 64 := by omega
  have u3 : U (a * 2 ^ (n % 64).toNat % 18446744073709551616) := by unfold U; omega
  have u7 : U (a / 2 ^ (n % 64).toNat) := U_div ha _ (pow_pos' _)
  simp only [word_at _ ha hk, word_at _ u3 hk, word_at _ u7 hk, Option.bind_some, aluV3, aluV7, hkk]
  simp only [shl_u64 _ _ h0 h1, shr_any .u64 _ _ h0 (show n % 64 ≤ 64 by omega), if_true, h0, bne_self_eq_false]
  simp only [citadellaw01_WordShifts.j0, word_at _ ha hn, Option.bind_some, aluV3, aluV7, aluV8, h0, if_true, Bool.false_eq_true, if_false, shl_u64 _ _ h0 h1, shr_any .u64 _ _ h0 (show n % 64 ≤ 64 by omega), shr_any .i64 _ _ h0 (show n % 64 ≤ 64 by omega), sg_wrap64 ha, sg_wrap64 (U_wrap _), sg_div ha, awake_at]
end Go.Proofs.Ytmfbijfghonnjaa.LawsC
