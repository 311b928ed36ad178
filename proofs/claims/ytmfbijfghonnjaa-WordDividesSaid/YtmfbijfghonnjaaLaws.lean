/- The plain laws of the arithmetic: what the statements' functions answer, from what each operation answers. -/
import Derived.Test.YtmfbijfghonnjaaPAx
import Derived.Test.YtmfbijfghonnjaaAlu
namespace Go.Proofs.Ytmfbijfghonnjaa.Laws
set_option linter.unusedVariables false
set_option linter.unusedSimpArgs false
open Go.RowKit Go.Proofs.Ytmfbijfghonnjaa.PA Go.Proofs.Ytmfbijfghonnjaa.Num Go.Proofs.Ytmfbijfghonnjaa.Alu Go.Proofs.YtmfbijfghonnjaaW.PrintWords Go.Proofs.YtmfbijfghonnjaaW.PrintLast Go.Proofs.YtmfbijfghonnjaaW.PrintMore

/-! ### atomics -/
theorem less_at {a b : Int} (ha : U a) (hb : U b) : citadelref01_less.f a b = some (decide (sg a < sg b)) := by
  unfold citadelref01_less.f; congr 1; rw [decide_eq_decide, less_sg ha hb]
def amoV (fn a b : Int) : Int := if fn = 1 then b else if fn = 2 then (a + b) % 18446744073709551616 else if fn = 3 then bits .xor .u64 a b else if fn = 4 then bits .and .u64 a b else if fn = 5 then bits .or .u64 a b else
  if fn = 6 then (if sg b < sg a then b else a) else if fn = 7 then (if sg a < sg b then b else a) else if fn = 8 then (if b < a then b else a) else if fn = 9 then (if a < b then b else a) else a
theorem ramo_at (fn : Int) {a b : Int} (ha : U a) (hb : U b) : citadelref01_amo.f fn a b = some (amoV fn a b) := by
  unfold citadelref01_amo.f amoV
  rw [less_at ha hb, less_at hb ha, wU]
  simp only [Option.bind_some, decide_eq_true_eq]
  (repeat' split) <;> rfl
theorem wamo_at (fn : Int) {a b c d : Int} (ha : U a) (hb : U b) (hcd : (if d < c then d else c) = (if b < a then d else c)) (hdc : (if c < d then d else c) = (if a < b then d else c)) :
    word_amo.f fn a b c d = some (if fn = 8 then (if b < a then d else c) else if fn = 9 then (if a < b then d else c) else amoV fn a b) := by
  unfold word_amo.f amoV mn mx
  rw [sg_wrap64 ha, sg_wrap64 hb, hcd, hdc, wU]
  have e1 : IntKind.u64.wrap (if sg b < sg a then sg b else sg a) = if sg b < sg a then b else a := by split <;> exact sg_back ‹_›
  have e2 : IntKind.u64.wrap (if sg a < sg b then sg b else sg a) = if sg a < sg b then b else a := by split <;> exact sg_back ‹_›
  rw [e1, e2]
  by_cases h8 : fn = 8
  · subst h8; simp
  by_cases h9 : fn = 9
  · subst h9; simp
  simp only [h8, h9, if_false]
  (repeat' split) <;> rfl
theorem U_amoV (fn : Int) {a b : Int} (ha : U a) (hb : U b) : U (amoV fn a b) := by
  have := U_xor ha hb; have := U_and ha hb; have := U_or ha hb
  have hs : U ((a + b) % 18446744073709551616) := by unfold U; omega
  unfold amoV
  (repeat' split) <;> assumption
def amoS (fn size a b : Int) : Int := if size = 4 then amoV fn (W32 a) (W32 b) % 4294967296 else amoV fn a b
theorem W32_lt (a b : Int) : (W32 a < W32 b) = (a % 4294967296 < b % 4294967296) := by unfold W32; (repeat' split) <;> simp <;> omega
theorem rAmo_at (fn size : Int) {a b : Int} (ha : U a) (hb : U b) : citadelref01_Amo.f fn size a b = some (amoS fn size a b) := by
  unfold citadelref01_Amo.f amoS
  rw [W_at ha, W_at hb]
  simp only [Option.bind_some]
  rw [ramo_at fn (U_W32 a) (U_W32 b), ramo_at fn ha hb]
  simp only [Option.bind_some, tmod_nn (U_amoV fn (U_W32 a) (U_W32 b)).1]
  split <;> rfl
theorem Amo_at (fn size : Int) {a b : Int} (ha : U a) (hb : U b) : word_Amo.f fn size a b = some (amoS fn size a b) := by
  unfold word_Amo.f amoS
  rw [ext_low, ext_low]
  simp only [Option.bind_some]
  rw [wamo_at fn (U_W32 a) (U_W32 b) (by simp only [W32_lt]) (by simp only [W32_lt]), wamo_at fn ha hb rfl rfl]
  simp only [Option.bind_some]
  by_cases h : size = 4
  · rw [if_pos h, if_pos h]; congr 1
    by_cases h8 : fn = 8
    · subst h8; simp only [amoV]; simp only [if_true, show (8 : Int) ≠ 1 by decide, show (8 : Int) ≠ 2 by decide, show (8 : Int) ≠ 3 by decide, show (8 : Int) ≠ 4 by decide, show (8 : Int) ≠ 5 by decide, show (8 : Int) ≠ 6 by decide, show (8 : Int) ≠ 7 by decide, if_false, W32_lt]
      split <;> rw [W32_eq] <;> omega
    by_cases h9 : fn = 9
    · subst h9; simp only [amoV]; simp only [if_true, show (9 : Int) ≠ 8 by decide, show (9 : Int) ≠ 1 by decide, show (9 : Int) ≠ 2 by decide, show (9 : Int) ≠ 3 by decide, show (9 : Int) ≠ 4 by decide, show (9 : Int) ≠ 5 by decide, show (9 : Int) ≠ 6 by decide, show (9 : Int) ≠ 7 by decide, if_false, W32_lt]
      split <;> rw [W32_eq] <;> omega
    rw [if_neg h8, if_neg h9]
  · rw [if_neg h, if_neg h]; congr 1
    unfold amoV
    by_cases h8 : fn = 8
    · subst h8; simp
    by_cases h9 : fn = 9
    · subst h9; simp
    rw [if_neg h8, if_neg h9]
theorem U_lits : U 9223372036854775808 ∧ U 63 ∧ U 7 ∧ U 0 ∧ U 2147483647 ∧ U 1 ∧ U 2147483648 := by unfold U; omega
theorem awake_at : citadellaw01_awake.f = some true := by
  obtain ⟨h1, h2, h3, h4, h5, h6, h7⟩ := U_lits
  unfold citadellaw01_awake.f
  rw [word_at 8 h1 h2, word_at 15 h3 h4, word_at 19 h5 h6, Amo_at 7 4 h7 h6]
  decide +kernel

theorem WordAlus : citadellaw01_WordAlus.Pure := by
  intro fn a b _ ha hb
  have ha := U_wf ha; have hb := U_wf hb
  refine ⟨65, ?_⟩
  unfold citadellaw01_WordAlus.f
  rw [word_at fn ha hb, ref_at 65 (by omega) fn ha hb]
  simp only [Option.bind_some, if_true, awake_at]

theorem all_l0 (n : Nat) : ∀ (k : Nat) {a b : Int} (i : Int), U a → U b → 0 ≤ i → 30 - i = n → n + 66 < k → citadellaw01_WordAll.l0 k a b i = some true := by
  induction n with
  | zero =>
    intro k a b i ha hb h0 h1 hk
    obtain ⟨k, rfl⟩ : ∃ j, k = j + 1 := ⟨k - 1, by omega⟩
    simp only [citadellaw01_WordAll.l0]; rw [if_neg (by omega), awake_at]; rfl
  | succ n ih =>
    intro k a b i ha hb h0 h1 hk
    obtain ⟨k, rfl⟩ : ∃ j, k = j + 1 := ⟨k - 1, by omega⟩
    simp only [citadellaw01_WordAll.l0]
    rw [if_pos (by omega), word_at i ha hb, ref_at k (by omega) i ha hb]
    simp only [Option.bind_some, if_true]
    rw [show wrap64 (i + 1) = i + 1 by unfold wrap64; omega]
    exact ih k (i + 1) ha hb (by omega) (by omega) (by omega)
theorem WordAll : citadellaw01_WordAll.Pure := by
  intro a b ha hb
  exact ⟨200, all_l0 30 200 0 (U_wf ha) (U_wf hb) (by omega) (by omega) (by omega)⟩

theorem amos_l0 (n : Nat) : ∀ (k : Nat) (size : Int) {a b : Int} (i : Int), U a → U b → -1 ≤ i → 12 - i = n → n < k → citadellaw01_WordAmos.l0 k size a b i = some true := by
  induction n with
  | zero =>
    intro k s a b i ha hb h0 h1 hk
    obtain ⟨k, rfl⟩ : ∃ j, k = j + 1 := ⟨k - 1, by omega⟩
    simp only [citadellaw01_WordAmos.l0]; rw [if_neg (by omega), awake_at]; rfl
  | succ n ih =>
    intro k s a b i ha hb h0 h1 hk
    obtain ⟨k, rfl⟩ : ∃ j, k = j + 1 := ⟨k - 1, by omega⟩
    simp only [citadellaw01_WordAmos.l0]
    rw [if_pos (by omega)]
    simp only [Amo_at i _ ha hb, rAmo_at i _ ha hb, Option.bind_some, if_true]
    rw [show wrap64 (i + 1) = i + 1 by unfold wrap64; omega]
    exact ih k s (i + 1) ha hb (by omega) (by omega) (by omega)
theorem WordAmos : citadellaw01_WordAmos.Pure := by
  intro s a b _ ha hb
  exact ⟨20, amos_l0 13 20 s (-1) (U_wf ha) (U_wf hb) (by omega) (by omega) (by omega)⟩

/-! ### branches -/
def brV (fn a b : Int) : Bool := if fn = 1 then a == b else if fn = 2 then a != b else if fn = 3 then decide (sg a < sg b) else if fn = 4 then decide (sg b ≤ sg a) else if fn = 5 then decide (a < b) else if fn = 6 then decide (b ≤ a) else false
theorem Branch_at (fn : Int) {a b : Int} (ha : U a) (hb : U b) : word_Branch.f fn a b = some (brV fn a b) := by
  unfold word_Branch.f brV; rw [sg_wrap64 ha, sg_wrap64 hb]; (repeat' split) <;> rfl
theorem rBranch_at (fn : Int) {a b : Int} (ha : U a) (hb : U b) : citadelref01_Branch.f fn a b = some (brV fn a b) := by
  unfold citadelref01_Branch.f brV; rw [less_at ha hb]
  simp only [Option.bind_some]
  by_cases h4 : fn = 4
  · subst h4; simp only [show (4 : Int) ≠ 1 by decide, show (4 : Int) ≠ 2 by decide, show (4 : Int) ≠ 3 by decide, if_false, if_true]
    congr 1; by_cases c : sg a < sg b
    · simp [c]
    · simp [c]; omega
  (repeat' split) <;> first | rfl | contradiction
theorem branches_l0 (n : Nat) : ∀ (k : Nat) {a b : Int} (i : Int), U a → U b → -1 ≤ i → 9 - i = n → n < k → citadellaw01_WordBranches.l0 k a b i = some true := by
  induction n with
  | zero =>
    intro k a b i ha hb h0 h1 hk
    obtain ⟨k, rfl⟩ : ∃ j, k = j + 1 := ⟨k - 1, by omega⟩
    simp only [citadellaw01_WordBranches.l0]; rw [if_neg (by omega), awake_at]; rfl
  | succ n ih =>
    intro k a b i ha hb h0 h1 hk
    obtain ⟨k, rfl⟩ : ∃ j, k = j + 1 := ⟨k - 1, by omega⟩
    simp only [citadellaw01_WordBranches.l0]
    rw [if_pos (by omega)]
    simp only [Branch_at i ha hb, rBranch_at i ha hb, Option.bind_some, bne_self_eq_false, Bool.false_eq_true, if_false]
    rw [show wrap64 (i + 1) = i + 1 by unfold wrap64; omega]
    exact ih k (i + 1) ha hb (by omega) (by omega) (by omega)
theorem WordBranches : citadellaw01_WordBranches.Pure := by
  intro a b ha hb
  exact ⟨20, branches_l0 10 20 (-1) (U_wf ha) (U_wf hb) (by omega) (by omega) (by omega)⟩

/-! ### products -/
theorem products_core (p q : Int) (hp : 0 ≤ p) (hq : 0 ≤ q) :
    (p / 18446744073709551616 % 18446744073709551616 + q / 18446744073709551616 % 18446744073709551616 + (if (p % 18446744073709551616 + q % 18446744073709551616) % 18446744073709551616 < p % 18446744073709551616 then 1 else 0)) % 18446744073709551616 = (p + q) / 18446744073709551616 % 18446744073709551616 := by
  split <;> omega
theorem alu11 (a b : Int) : aluV 11 a b = a * b % 18446744073709551616 := by unfold aluV; simp
theorem alu14 (a b : Int) : aluV 14 a b = hi a b := by unfold aluV; simp
theorem alu13 (a b : Int) : aluV 13 a b = mulhsuV a b := by unfold aluV; simp
theorem alu12 (a b : Int) : aluV 12 a b = mulhV a b := by unfold aluV; simp
theorem WordProducts : citadellaw01_WordProducts.Pure := by
  intro a b c ha hb hc
  have ha := U_wf ha; have hb := U_wf hb; have hc := U_wf hc
  refine ⟨5, ?_⟩
  unfold citadellaw01_WordProducts.f
  rw [wU]
  by_cases h : (b + c) % 18446744073709551616 < b
  · rw [if_pos h, awake_at]; rfl
  rw [if_neg h]
  have hs : (b + c) % 18446744073709551616 = b + c := by unfold U at hb hc; omega
  have hbc : U (b + c) := by unfold U at hb hc ⊢; omega
  have hp : 0 ≤ a * b := Int.mul_nonneg ha.1 hb.1
  have hq : 0 ≤ a * c := Int.mul_nonneg ha.1 hc.1
  have hab := U_hi ha hb; have hac := U_hi ha hc; have habc := U_hi ha hbc
  have core := products_core (a * b) (a * c) hp hq
  have hm : hi a (b + c) = (a * b + a * c) / 18446744073709551616 := by unfold hi; rw [Int.mul_add]
  have em : ∀ x, U x → x % 18446744073709551616 = x := by intro x hx; unfold U at hx; omega
  have j2 : ∀ k, 0 < k → ∀ x, x = mulhsuV a b → citadellaw01_WordProducts.j2 k a b x = some true := by
    intro k hk x hx; subst hx
    obtain ⟨k, rfl⟩ : ∃ j, k = j + 1 := ⟨k - 1, by omega⟩
    simp only [citadellaw01_WordProducts.j2, word_at _ ha hb, alu13, alu12, Option.bind_some, if_true, awake_at]
    unfold mulhV
    have := sg_neg hb
    by_cases g : 9223372036854775808 ≤ b
    · rw [if_pos g]; simp only [this, g, if_true, wU]
    · rw [if_neg g]; simp only [this, g, if_false, if_true]
  have j1 : ∀ k, 1 < k → citadellaw01_WordProducts.j1 k a b false = some true := by
    intro k hk
    obtain ⟨k, rfl⟩ : ∃ j, k = j + 1 := ⟨k - 1, by omega⟩
    simp only [citadellaw01_WordProducts.j1, word_at _ ha hb, alu14, Option.bind_some, Bool.false_eq_true, if_false]
    have := sg_neg ha
    by_cases g : 9223372036854775808 ≤ a
    · rw [if_pos g]; exact j2 k (by omega) _ (by unfold mulhsuV; simp only [this, g, if_true, wU])
    · rw [if_neg g]; exact j2 k (by omega) _ (by unfold mulhsuV; simp only [this, g, if_false])
  have j0 : ∀ x y, x = (a * b % 18446744073709551616 + a * c % 18446744073709551616) % 18446744073709551616 → y = (if (a * b % 18446744073709551616 + a * c % 18446744073709551616) % 18446744073709551616 < a * b % 18446744073709551616 then 1 else 0) → citadellaw01_WordProducts.j0 5 a b c x y = some true := by
    intro x y hx hy
    simp only [citadellaw01_WordProducts.j0, wU, hs, word_at _ ha hb, word_at _ ha hc, word_at _ ha hbc, alu11, alu14, Option.bind_some]
    rw [if_pos (by rw [hx, Int.mul_add]; omega)]
    have : ((hi a b + hi a c) % 18446744073709551616 + y) % 18446744073709551616 = hi a (b + c) := by
      rw [hy, hm]; rw [hm] at habc
      have e1 := em _ hab; have e2 := em _ hac; have e3 := em _ habc
      unfold hi at e1 e2 ⊢
      rw [e1, e2, e3] at core
      rw [← core]; omega
    rw [this, bne_self_eq_false]
    exact j1 4 (by omega)
  simp only [word_at _ ha hb, word_at _ ha hc, alu11, Option.bind_some, wU]
  split
  · exact j0 _ _ rfl (by rw [if_pos ‹_›])
  · exact j0 _ _ rfl (by rw [if_neg ‹_›])
end Go.Proofs.Ytmfbijfghonnjaa.Laws
