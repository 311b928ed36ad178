/- The plain laws of the arithmetic, second part: extensions, halves, orders, atomics. -/
import Derived.Test.YtmfbijfghonnjaaLaws
namespace Go.Proofs.Ytmfbijfghonnjaa.LawsB
set_option linter.unusedVariables false
set_option linter.unusedSimpArgs false
open Go.RowKit Go.Proofs.Ytmfbijfghonnjaa.PA Go.Proofs.Ytmfbijfghonnjaa.Num Go.Proofs.Ytmfbijfghonnjaa.Alu Go.Proofs.Ytmfbijfghonnjaa.Laws Go.Proofs.YtmfbijfghonnjaaW.PrintWords Go.Proofs.YtmfbijfghonnjaaW.PrintLast Go.Proofs.YtmfbijfghonnjaaW.PrintMore

/-! ### bits -/
theorem and_or (n : Nat) : ∀ a b : Nat, a < 2 ^ n → (a &&& b) + (a ||| b) = a + b := by
  induction n with
  | zero =>
    intro a b h
    obtain rfl : a = 0 := by omega
    simp
  | succ n ih =>
    intro a b h
    have hd := ih (a / 2) (b / 2) (by rw [Nat.pow_succ] at h; omega)
    have e1 : (a &&& b) / 2 = a / 2 &&& b / 2 := Nat.and_div_two
    have e2 : (a ||| b) / 2 = a / 2 ||| b / 2 := Nat.or_div_two
    have m1 : (a &&& b) % 2 = a % 2 &&& b % 2 := Nat.and_mod_two_pow (n := 1)
    have m2 : (a ||| b) % 2 = a % 2 ||| b % 2 := Nat.or_mod_two_pow (n := 1)
    rw [← e1, ← e2] at hd
    have hm : (a % 2 &&& b % 2) + (a % 2 ||| b % 2) = a % 2 + b % 2 := by
      rcases Nat.mod_two_eq_zero_or_one a with h1 | h1 <;> rcases Nat.mod_two_eq_zero_or_one b with h2 | h2 <;> rw [h1, h2] <;> rfl
    rw [← m1, ← m2] at hm
    omega
theorem and_or_u64 {a b : Int} (ha : U a) (hb : U b) : bits .and .u64 a b + bits .or .u64 a b = a + b := by
  unfold U at ha hb
  rw [u64_and a b ha.1 ha.2 hb.1 hb.2, u64_or a b ha.1 ha.2 hb.1 hb.2]
  have := and_or 64 a.toNat b.toNat (by omega)
  omega
theorem xor_xor {a b : Int} (ha : U a) (hb : U b) : bits .xor .u64 (bits .xor .u64 a b) b = a := by
  have h := U_xor ha hb
  unfold U at ha hb h
  rw [u64_xor _ b h.1 h.2 hb.1 hb.2, u64_xor a b ha.1 ha.2 hb.1 hb.2, Int.toNat_natCast, Nat.xor_assoc, Nat.xor_self, Nat.xor_zero]
  omega
theorem xor_top_lo (c : Nat) (h : c < 2 ^ 63) : c ^^^ 2 ^ 63 = 2 ^ 63 + c := by
  apply Nat.eq_of_testBit_eq
  intro i
  rw [Nat.testBit_xor, Nat.testBit_two_pow]
  rcases Nat.lt_trichotomy i 63 with h1 | h1 | h1
  · rw [Nat.testBit_two_pow_add_gt h1]; have : 63 ≠ i := by omega
    simp [this]
  · subst h1; rw [Nat.testBit_two_pow_add_eq]; simp
  · have hp : 2 ^ 64 ≤ 2 ^ i := Nat.pow_le_pow_right (by decide) h1
    rw [Nat.testBit_lt_two_pow (show c < 2 ^ i by omega), Nat.testBit_lt_two_pow (show 2 ^ 63 + c < 2 ^ i by omega)]; have : 63 ≠ i := by omega
    simp [this]
theorem xor_top {a : Int} (ha : U a) : bits .xor .u64 a 9223372036854775808 = (a + 9223372036854775808) % 18446744073709551616 := by
  unfold U at ha
  rw [u64_xor a _ ha.1 ha.2 (by decide) (by decide), show (9223372036854775808 : Int).toNat = 2 ^ 63 from rfl]
  by_cases h : a < 9223372036854775808
  · rw [xor_top_lo _ (by omega)]; omega
  · obtain ⟨c, hc⟩ : ∃ c, a.toNat = 2 ^ 63 + c := ⟨a.toNat - 2 ^ 63, by omega⟩
    rw [hc, ← xor_top_lo c (by omega), Nat.xor_assoc, Nat.xor_self, Nat.xor_zero]; omega

/-! ### extensions -/
def extV (v n : Int) (s : Bool) : Int :=
  if n = 1 then (if s = true ∧ 128 ≤ v % 256 then v % 256 + 18446744073709551360 else v % 256)
  else if n = 2 then (if s = true ∧ 32768 ≤ v % 65536 then v % 65536 + 18446744073709486080 else v % 65536)
  else if n = 4 then (if s = true ∧ 2147483648 ≤ v % 4294967296 then v % 4294967296 + 18446744069414584320 else v % 4294967296)
  else v
theorem U_extV {v : Int} (hv : U v) (n : Int) (s : Bool) : U (extV v n s) := by unfold U at *; unfold extV; (repeat' split) <;> omega
theorem Extend_at {v : Int} (hv : U v) (n : Int) (s : Bool) (k : Nat) (hk : 0 < k) : word_Extend.f k v n s = some (extV v n s) := by
  obtain ⟨k, rfl⟩ : ∃ j, k = j + 1 := ⟨k - 1, by omega⟩
  unfold word_Extend.f extV
  simp only [word_Extend.j0]
  unfold U at hv
  by_cases h1 : n = 1
  · subst h1
    simp only [if_true, Bool.false_eq_true, if_false, show wrap64 (64 - wrap64 (8 * 1)) = 56 from by decide +kernel, shr_any .i64 _ 56 (by decide) (by decide), shr_any .u64 _ 56 (by decide) (by decide), shl_u64 _ 56 (by decide) (by decide), wU, show (0 : Int) ≤ 56 by decide]
    cases s <;> simp <;> (try unfold wrap64) <;> (try split) <;> omega
  by_cases h2 : n = 2
  · subst h2
    simp only [if_true, Bool.false_eq_true, if_false, show (2 : Int) ≠ 1 by decide, show wrap64 (64 - wrap64 (8 * 2)) = 48 from by decide +kernel, shr_any .i64 _ 48 (by decide) (by decide), shr_any .u64 _ 48 (by decide) (by decide), shl_u64 _ 48 (by decide) (by decide), wU, show (0 : Int) ≤ 48 by decide]
    cases s <;> simp <;> (try unfold wrap64) <;> (try split) <;> omega
  by_cases h4 : n = 4
  · subst h4
    simp only [if_true, Bool.false_eq_true, if_false, show (4 : Int) ≠ 1 by decide, show (4 : Int) ≠ 2 by decide, bne_self_eq_false, show wrap64 (64 - wrap64 (8 * 4)) = 32 from by decide +kernel, shr_any .i64 _ 32 (by decide) (by decide), shr_any .u64 _ 32 (by decide) (by decide), shl_u64 _ 32 (by decide) (by decide), wU, show (0 : Int) ≤ 32 by decide]
    cases s <;> simp <;> (try unfold wrap64) <;> (try split) <;> omega
  · rw [if_neg h1, if_neg h2, if_neg h1, if_neg h2, if_neg h4, if_pos (bne_iff_ne.2 h4)]
theorem rExtend_at {v : Int} (hv : U v) (n : Int) (s : Bool) (k : Nat) (hk : 0 < k) : citadelref01_Extend.f k v n s = some (extV v n s) := by
  obtain ⟨k, rfl⟩ : ∃ j, k = j + 1 := ⟨k - 1, by omega⟩
  unfold citadelref01_Extend.f extV
  simp only [citadelref01_Extend.j0]
  unfold U at hv
  by_cases h1 : n = 1
  · subst h1
    simp only [if_true, Bool.false_eq_true, if_false, show IntKind.u64.wrap (wrap64 (8 * 1)) = 8 from by decide +kernel, show IntKind.u64.wrap (8 - 1) = 7 by decide +kernel, shl_u64 _ 8 (by decide) (by decide), shl_u64 _ 7 (by decide) (by decide), wU, show (0 : Int) ≤ 8 by decide, show (0 : Int) ≤ 7 by decide, tmod_nn hv.1]
    cases s <;> simp <;> (repeat' split) <;> simp <;> omega
  by_cases h2 : n = 2
  · subst h2
    simp only [if_true, Bool.false_eq_true, if_false, show (2 : Int) ≠ 1 by decide, show IntKind.u64.wrap (wrap64 (8 * 2)) = 16 from by decide +kernel, show IntKind.u64.wrap (16 - 1) = 15 by decide +kernel, shl_u64 _ 16 (by decide) (by decide), shl_u64 _ 15 (by decide) (by decide), wU, show (0 : Int) ≤ 16 by decide, show (0 : Int) ≤ 15 by decide, tmod_nn hv.1]
    cases s <;> simp <;> (repeat' split) <;> simp <;> omega
  by_cases h4 : n = 4
  · subst h4
    simp only [if_true, Bool.false_eq_true, if_false, show (4 : Int) ≠ 1 by decide, show (4 : Int) ≠ 2 by decide, bne_self_eq_false, show IntKind.u64.wrap (wrap64 (8 * 4)) = 32 from by decide +kernel, show IntKind.u64.wrap (32 - 1) = 31 by decide +kernel, shl_u64 _ 32 (by decide) (by decide), shl_u64 _ 31 (by decide) (by decide), wU, show (0 : Int) ≤ 32 by decide, show (0 : Int) ≤ 31 by decide, tmod_nn hv.1]
    cases s <;> simp <;> (repeat' split) <;> simp <;> omega
  · rw [if_neg h1, if_neg h2, if_neg h1, if_neg h2, if_neg h4, if_pos (bne_iff_ne.2 h4)]
theorem WordExtends : citadellaw01_WordExtends.Pure := by
  intro v n hv _
  have hv := U_wf hv
  refine ⟨1, ?_⟩
  unfold citadellaw01_WordExtends.f
  simp only [Extend_at hv n _ 1 (by omega), rExtend_at hv n _ 1 (by omega), Option.bind_some, if_true, awake_at]

/-! ### halves -/
theorem aluV19 (a b : Int) : aluV 19 a b = W32 (a + b) := by unfold aluV; simp
theorem ext4 (x : Int) : extV x 4 true = W32 x := by unfold extV W32; simp; (repeat' split) <;> omega
theorem halves_dep (fn a b : Int) (h0 : 19 ≤ fn) (h1 : fn ≤ 28) : aluV fn a b = aluV fn (a % 4294967296) (b % 4294967296) := by
  have ea : a % 4294967296 % 4294967296 = a % 4294967296 := by omega
  have eb : b % 4294967296 % 4294967296 = b % 4294967296 := by omega
  have es : b % 4294967296 % 32 = b % 32 := by omega
  have wc : ∀ x y : Int, x % 4294967296 = y % 4294967296 → W32 x = W32 y := by intro x y h; unfold W32; rw [h]
  rcases (show fn = 19 ∨ fn = 20 ∨ fn = 21 ∨ fn = 22 ∨ fn = 23 ∨ fn = 24 ∨ fn = 25 ∨ fn = 26 ∨ fn = 27 ∨ fn = 28 by omega) with h | h | h | h | h | h | h | h | h | h <;> subst h <;> unfold aluV <;> simp <;> (try simp only [W32_low, ea, eb, es])
  · exact wc _ _ (by omega)
  · exact wc _ _ (by omega)
  · exact wc _ _ (by rw [Int.mul_emod])
theorem halves_W (fn a b : Int) (h0 : 19 ≤ fn) (h1 : fn ≤ 28) : ∃ x, aluV fn a b = W32 x := by
  rcases (show fn = 19 ∨ fn = 20 ∨ fn = 21 ∨ fn = 22 ∨ fn = 23 ∨ fn = 24 ∨ fn = 25 ∨ fn = 26 ∨ fn = 27 ∨ fn = 28 by omega) with h | h | h | h | h | h | h | h | h | h <;> subst h <;> unfold aluV <;> simp <;> exact ⟨_, rfl⟩
theorem W32_W32 (x : Int) : W32 (W32 x) = W32 x := by have := W32_eq x; unfold W32 at this ⊢; rw [this]
theorem halves_l0 (n : Nat) : ∀ (k : Nat) {a b x y : Int} (i : Int), U a → U b → 19 ≤ i → 29 - i = n → n + 1 < k → citadellaw01_WordHalves.l0 k a b x y i = some true := by
  induction n with
  | zero =>
    intro k a b x y i ha hb h0 h1 hk
    obtain ⟨k, rfl⟩ : ∃ j, k = j + 1 := ⟨k - 1, by omega⟩
    simp only [citadellaw01_WordHalves.l0]; rw [if_neg (by omega), awake_at]; rfl
  | succ n ih =>
    intro k a b x y i ha hb h0 h1 hk
    obtain ⟨k, rfl⟩ : ∃ j, k = j + 1 := ⟨k - 1, by omega⟩
    simp only [citadellaw01_WordHalves.l0]
    rw [if_pos (by omega)]
    simp only [tmod_nn ha.1, tmod_nn hb.1]
    have hx : IntKind.u64.wrap (a % 4294967296 + IntKind.u64.wrap (x * 4294967296)) % 4294967296 = a % 4294967296 := by simp only [wU]; omega
    have hy : IntKind.u64.wrap (b % 4294967296 + IntKind.u64.wrap (y * 4294967296)) % 4294967296 = b % 4294967296 := by simp only [wU]; omega
    have he : aluV i (IntKind.u64.wrap (a % 4294967296 + IntKind.u64.wrap (x * 4294967296))) (IntKind.u64.wrap (b % 4294967296 + IntKind.u64.wrap (y * 4294967296))) = aluV i a b := by
      rw [halves_dep i _ _ (by omega) (by omega), hx, hy, ← halves_dep i a b (by omega) (by omega)]
    obtain ⟨z, hz⟩ := halves_W i a b (by omega) (by omega)
    rw [word_at i ha hb, word_at i (U_wrap _) (U_wrap _), he]
    simp only [Option.bind_some, if_true]
    rw [Extend_at (U_aluV i ha hb) 4 true k (by omega), ext4, hz, W32_W32]
    simp only [Option.bind_some, if_true]
    rw [show wrap64 (i + 1) = i + 1 by unfold wrap64; omega]
    exact ih k (i + 1) ha hb (by omega) (by omega) (by omega)
theorem WordHalves : citadellaw01_WordHalves.Pure := by
  intro a b x y ha hb _ _
  exact ⟨20, halves_l0 10 20 19 (U_wf ha) (U_wf hb) (by omega) (by omega) (by omega)⟩

/-! ### widens -/
theorem widens_core {v n : Int} (hv : U v) (hn : n = 1 ∨ n = 2 ∨ n = 4) : extV (extV v n true) n true = extV v n true ∧ extV (extV v n false) n false = extV v n false ∧ extV (extV v n true) n false = extV v n false ∧ extV (extV v n false) n true = extV v n true := by
  unfold U at hv
  rcases hn with h | h | h <;> subst h <;> unfold extV <;> refine ⟨?_, ?_, ?_, ?_⟩ <;> simp <;> (repeat' split) <;> omega
theorem hi_bool (A B c : Int) (h : A = B ↔ ¬ c = 1) : ((A == B) == !(c == 1)) = true := by
  by_cases e : A = B
  · have := h.1 e; simp [e, this]
  · have : c = 1 := Classical.byContradiction fun g => e (h.2 g)
    simp [e, this]
theorem widens_high {v n : Int} (hv : U v) (hn : n = 1 ∨ n = 2 ∨ n = 4) : ((extV v n true == extV v n false) == !(Int.tmod (shr .u64 v (IntKind.u64.wrap (wrap64 (wrap64 (8 * n) - 1)))) 2 == 1)) = true := by
  have hd : ∀ m : Int, 0 < m → 0 ≤ v / m := fun m hm => Int.ediv_nonneg hv.1 (Int.le_of_lt hm)
  unfold U at hv
  refine hi_bool _ _ _ ?_
  rcases hn with h | h | h <;> subst h
  · rw [show IntKind.u64.wrap (wrap64 (wrap64 (8 * 1) - 1)) = 7 by decide +kernel, shr_any .u64 _ 7 (by decide) (by decide), show (2 : Int) ^ (7 : Int).toNat = 128 from rfl, tmod_nn (hd _ (by decide))]
    unfold extV; simp; omega
  · rw [show IntKind.u64.wrap (wrap64 (wrap64 (8 * 2) - 1)) = 15 by decide +kernel, shr_any .u64 _ 15 (by decide) (by decide), show (2 : Int) ^ (15 : Int).toNat = 32768 from rfl, tmod_nn (hd _ (by decide))]
    unfold extV; simp; omega
  · rw [show IntKind.u64.wrap (wrap64 (wrap64 (8 * 4) - 1)) = 31 by decide +kernel, shr_any .u64 _ 31 (by decide) (by decide), show (2 : Int) ^ (31 : Int).toNat = 2147483648 from rfl, tmod_nn (hd _ (by decide))]
    unfold extV; simp; omega
theorem widens_small {v n : Int} (hn : n = 1 ∨ n = 2 ∨ n = 4) : 0 ≤ IntKind.u64.wrap (wrap64 (8 * n)) ∧ extV v n false < shl .u64 1 (IntKind.u64.wrap (wrap64 (8 * n))) := by
  rcases hn with h | h | h <;> subst h
  · rw [show IntKind.u64.wrap (wrap64 (8 * 1)) = 8 by decide +kernel, shl_u64 _ _ (by decide) (by decide)]; unfold extV; simp; omega
  · rw [show IntKind.u64.wrap (wrap64 (8 * 2)) = 16 by decide +kernel, shl_u64 _ _ (by decide) (by decide)]; unfold extV; simp; omega
  · rw [show IntKind.u64.wrap (wrap64 (8 * 4)) = 32 by decide +kernel, shl_u64 _ _ (by decide) (by decide)]; unfold extV; simp; omega
theorem WordWidens : citadellaw01_WordWidens.Pure := by
  intro v size hv hs
  have hv := U_wf hv
  have hs := bounds_i64 hs
  refine ⟨3, ?_⟩
  unfold citadellaw01_WordWidens.f
  simp only [Option.bind_some]
  have hr : Int.tmod size 3 > -3 ∧ Int.tmod size 3 < 3 := by
    have h1 := Int.tmod_lt_of_pos size (show (0 : Int) < 3 by decide)
    have h2 := Int.lt_tmod_of_pos size (show (0 : Int) < 3 by decide)
    omega
  have hw : wrap64 (Int.tmod size 3 + 3) = Int.tmod size 3 + 3 := by unfold wrap64; omega
  rw [hw, tmod_nn (show 0 ≤ Int.tmod size 3 + 3 by omega)]
  obtain ⟨i, hi, h0, h3⟩ : ∃ i, (Int.tmod size 3 + 3) % 3 = i ∧ 0 ≤ i ∧ i < 3 := ⟨_, rfl, by omega, by omega⟩
  rw [hi, if_pos h0, if_pos (by show i < 3; exact h3)]
  obtain ⟨n, hn, hn3⟩ : ∃ n, rd ([1, 2, 4] : List Int) i = n ∧ (n = 1 ∨ n = 2 ∨ n = 4) := by
    rcases (show i = 0 ∨ i = 1 ∨ i = 2 by omega) with h | h | h <;> subst h
    · exact ⟨1, rfl, by decide⟩
    · exact ⟨2, rfl, by decide⟩
    · exact ⟨4, rfl, by decide⟩
  rw [hn]
  obtain ⟨c1, c2, c3, c4⟩ := widens_core hv hn3
  obtain ⟨s1, s2⟩ := widens_small (v := v) hn3
  have hh := widens_high hv hn3
  have us := U_extV hv n true; have uu := U_extV hv n false
  simp only [Extend_at hv n _ 3 (by omega), Extend_at us n _ 3 (by omega), Extend_at uu n _ 3 (by omega), Option.bind_some, c1, c2, c3, c4, if_true, bne_self_eq_false]
  rw [if_pos (by rw [wU]; omega)]
  simp only [citadellaw01_WordWidens.j0]
  rw [if_neg (by decide), if_pos hh, if_pos s1, if_pos s2, word_at 19 hv (by unfold U; omega), Extend_at hv 4 true 2 (by omega), ext4, aluV19]
  simp only [Option.bind_some, Int.add_zero, if_true, awake_at]

/-! ### orders -/
theorem br1 (a b : Int) : brV 1 a b = (a == b) := by unfold brV; simp
theorem br2 (a b : Int) : brV 2 a b = (a != b) := by unfold brV; simp
theorem br3 (a b : Int) : brV 3 a b = decide (sg a < sg b) := by unfold brV; simp
theorem br4 (a b : Int) : brV 4 a b = decide (sg b ≤ sg a) := by unfold brV; simp
theorem br5 (a b : Int) : brV 5 a b = decide (a < b) := by unfold brV; simp
theorem br6 (a b : Int) : brV 6 a b = decide (b ≤ a) := by unfold brV; simp
theorem aluV4 (a b : Int) : aluV 4 a b = if sg a < sg b then 1 else 0 := by unfold aluV; simp
theorem aluV5 (a b : Int) : aluV 5 a b = if a < b then 1 else 0 := by unfold aluV; simp
theorem eq_dec (a b : Int) : (decide (a < b) == decide (b ≤ a)) = false := by
  by_cases c : a < b
  · simp [c]
  · simp [c]; omega
theorem one_dec (p : Prop) [Decidable p] : (((if p then (1 : Int) else 0) == 1) != decide p) = false := by by_cases c : p <;> simp [c]
theorem WordOrders : citadellaw01_WordOrders.Pure := by
  intro a b c ha hb hc
  have ha := U_wf ha; have hb := U_wf hb; have hc := U_wf hc
  refine ⟨3, ?_⟩
  have hx : U ((a + 9223372036854775808) % 18446744073709551616) := by unfold U; omega
  have hy : U ((b + 9223372036854775808) % 18446744073709551616) := by unfold U; omega
  have j2 : citadellaw01_WordOrders.j2 1 a b false = some true := by
    simp only [citadellaw01_WordOrders.j2, Branch_at _ ha hb, Branch_at _ hx hy, Option.bind_some, Bool.false_eq_true, if_false, br3, br5, xor_top ha, xor_top hb]
    have := less_sg ha hb
    rw [wU, wU] at this
    simp only [this, beq_self_eq_true, if_true, awake_at, Option.bind_some]
  unfold citadellaw01_WordOrders.f
  simp only [Branch_at _ ha hb, Option.bind_some, br1, br2, br3, br4, br5, br6, eq_dec, Bool.false_eq_true, if_false]
  have e : ((a == b) == (a != b)) = false := by unfold bne; cases (a == b) <;> rfl
  rw [e]
  simp only [citadellaw01_WordOrders.j0, word_at _ ha hb, Branch_at _ ha hb, Option.bind_some, Bool.false_eq_true, if_false, br3, br5, aluV4, aluV5, one_dec]
  simp only [citadellaw01_WordOrders.j1, Branch_at _ ha hb, Branch_at _ hb hc, Branch_at _ ha hc, Option.bind_some, Bool.false_eq_true, if_false, br3, decide_eq_true_eq]
  by_cases h1 : sg a < sg b
  · rw [if_pos h1]
    by_cases h2 : sg b < sg c
    · rw [if_pos h2, decide_eq_true (show sg a < sg c by omega)]; exact j2
    · rw [if_neg h2]; exact j2
  · rw [if_neg h1]; exact j2

/-! ### atomics -/
theorem amoS8 (fn a b : Int) : amoS fn 8 a b = amoV fn a b := by unfold amoS; simp
theorem amoS4 (fn a b : Int) : amoS fn 4 a b = amoV fn (W32 a) (W32 b) % 4294967296 := by unfold amoS; simp
theorem atomics_l0 (n : Nat) : ∀ (k : Nat) {a b : Int} (i : Int), U a → U b → 1 ≤ i → 10 - i = n → n < k → citadellaw01_WordAtomics.l0 k a b i = some true := by
  induction n with
  | zero =>
    intro k a b i ha hb h0 h1 hk
    obtain ⟨k, rfl⟩ : ∃ j, k = j + 1 := ⟨k - 1, by omega⟩
    simp only [citadellaw01_WordAtomics.l0]; rw [if_neg (by omega), awake_at]; rfl
  | succ n ih =>
    intro k a b i ha hb h0 h1 hk
    obtain ⟨k, rfl⟩ : ∃ j, k = j + 1 := ⟨k - 1, by omega⟩
    simp only [citadellaw01_WordAtomics.l0]
    rw [if_pos (by omega)]
    simp only [tmod_nn ha.1, tmod_nn hb.1, Amo_at i 4 ha hb, Amo_at i 4 (U_low a) (U_low b), Option.bind_some, amoS4, W32_low, if_true]
    rw [if_neg (by omega), show wrap64 (i + 1) = i + 1 by unfold wrap64; omega]
    exact ih k (i + 1) ha hb (by omega) (by omega) (by omega)
theorem WordAtomics : citadellaw01_WordAtomics.Pure := by
  intro a b ha hb
  have ha := U_wf ha; have hb := U_wf hb
  refine ⟨20, ?_⟩
  have e1 : amoV 1 a b = b := by unfold amoV; simp
  have e2 : amoV 2 a b = (a + b) % 18446744073709551616 := by unfold amoV; simp
  have e3 : amoV 3 a b = bits .xor .u64 a b := by unfold amoV; simp
  have e4 : amoV 4 a b = bits .and .u64 a b := by unfold amoV; simp
  have e5 : amoV 5 a b = bits .or .u64 a b := by unfold amoV; simp
  have e6 : amoV 6 a b = if sg b < sg a then b else a := by unfold amoV; simp
  have e7 : amoV 7 a b = if sg a < sg b then b else a := by unfold amoV; simp
  have e8 : amoV 8 a b = if b < a then b else a := by unfold amoV; simp
  have e9 : amoV 9 a b = if a < b then b else a := by unfold amoV; simp
  have inj : sg a = sg b → a = b := by intro h; rw [← sg_back ha, ← sg_back hb, h]
  have s67 : amoV 6 a b + amoV 7 a b = a + b := by rw [e6, e7]; (repeat' split) <;> omega
  have s89 : amoV 8 a b + amoV 9 a b = a + b := by rw [e8, e9]; (repeat' split) <;> omega
  have s45 : amoV 4 a b + amoV 5 a b = a + b := by rw [e4, e5]; exact and_or_u64 ha hb
  have u6 := U_amoV 6 ha hb; have u7 := U_amoV 7 ha hb; have u8 := U_amoV 8 ha hb; have u9 := U_amoV 9 ha hb
  have l67 : ¬ sg (amoV 7 a b) < sg (amoV 6 a b) := by rw [e6, e7]; (repeat' split) <;> omega
  have l89 : ¬ amoV 9 a b < amoV 8 a b := by rw [e8, e9]; (repeat' split) <;> omega
  unfold citadellaw01_WordAtomics.f
  simp only [Amo_at _ 8 ha hb, amoS8, Option.bind_some, wU]
  rw [if_pos e1, if_pos e2, e3, xor_xor ha hb, bne_self_eq_false]
  simp only [citadellaw01_WordAtomics.j0, Amo_at _ 8 ha hb, amoS8, Option.bind_some, wU, Bool.false_eq_true, if_false, s45, s67, s89, if_true, bne_self_eq_false]
  simp only [citadellaw01_WordAtomics.j1, Amo_at _ 8 ha hb, amoS8, Option.bind_some, Bool.false_eq_true, if_false, Branch_at _ u7 u6, Branch_at _ u9 u8, br3, br5, decide_eq_true_eq, l67, l89, decide_false]
  simp only [citadellaw01_WordAtomics.j2, Bool.false_eq_true, if_false]
  exact atomics_l0 9 _ 1 ha hb (by omega) (by omega) (by omega)
end Go.Proofs.Ytmfbijfghonnjaa.LawsB
