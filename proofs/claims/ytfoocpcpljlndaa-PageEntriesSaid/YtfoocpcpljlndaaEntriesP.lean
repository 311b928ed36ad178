/- What PageEntries says, in plain words: a translation hangs on the tables below frame 6 alone. -/
import Derived.Test.YtfoocpcpljlndaaNumW
import Derived.Test.YtfoocpcpljlndaaTranslate
namespace Go.Proofs.Ytfoocpcpljlndaa.Duo
open Go Go.RowKit Go.Proofs.Ytfoocpcpljlndaa.Step Go.Proofs.Ytfoocpcpljlndaa.Mem Go.Proofs.Ytfoocpcpljlndaa.Tab
set_option linter.unusedVariables false
set_option linter.unusedSimpArgs false

theorem and_high (x k : Nat) (hk : k ≤ 64) (hx : x < 2 ^ 64) : x &&& ((2 ^ (64 - k) - 1) * 2 ^ k) = x / 2 ^ k * 2 ^ k := by
  apply Nat.eq_of_testBit_eq
  intro i
  rw [Nat.testBit_and, Nat.testBit_mul_two_pow, Nat.testBit_mul_two_pow, Nat.testBit_two_pow_sub_one, Nat.testBit_div_two_pow]
  by_cases h : k ≤ i
  · rw [show i - k + k = i by omega]
    by_cases h2 : i - k < 64 - k
    · simp [h, h2]
    · rw [Nat.testBit_lt_two_pow (Nat.lt_of_lt_of_le hx (Nat.pow_le_pow_right (by decide) (show 64 ≤ i by omega)))]
      simp
  · simp [h]
/-- An entry whose page number is taken away. -/
theorem andNot_pn {v : Int} (h : U64 v) : bits .andNot .u64 v 18014398509480960 = v - pn v * 1024 := by
  obtain ⟨v0, v1⟩ := h
  obtain ⟨x, rfl⟩ := Int.eq_ofNat_of_zero_le v0
  rw [u64_andNot _ _ v0 v1 (by decide) (by decide), Int.toNat_natCast]
  have hx : x < 2 ^ 64 := by omega
  have e1 := and_high x 54 (by decide) hx
  have e2 : x &&& 1023 = x % 1024 := Nat.and_two_pow_sub_one_eq_mod x 10
  have e3 : (18446744073709551615 - (18014398509480960 : Int).toNat : Nat) = ((2 ^ (64 - 54) - 1) * 2 ^ 54) ||| 1023 := by decide
  rw [e3, Nat.and_or_distrib_left, e1, e2]
  have e4 : x / 2 ^ 54 * 2 ^ 54 ||| x % 1024 = 2 ^ 54 * (x / 2 ^ 54) + x % 1024 := by
    rw [Nat.mul_comm]
    exact (Nat.two_pow_add_eq_or_of_lt (show x % 1024 < 2 ^ 54 by omega) _).symm
  rw [e4]
  unfold pn
  omega
theorem andNot_low {v : Int} (h : U64 v) : bits .andNot .u64 v 17592186044415 = v - v % 17592186044416 := by
  obtain ⟨v0, v1⟩ := h
  obtain ⟨x, rfl⟩ := Int.eq_ofNat_of_zero_le v0
  rw [u64_andNot _ _ v0 v1 (by decide) (by decide), Int.toNat_natCast]
  have e1 := and_high x 44 (by decide) (by omega)
  rw [show (18446744073709551615 - (17592186044415 : Int).toNat : Nat) = (2 ^ (64 - 44) - 1) * 2 ^ 44 from by decide, e1]
  omega
/-- An entry brought low. -/
def lowV (v : Int) : Int := if ptr v = true ∧ 5 < pn v then v - pn v * 1024 else v
def lf (f : Nat → Int × Int) : Nat → Int × Int := fun i => ((f i).1 % 3072, lowV (f i).2)
/-- An entry that points, points low. -/
def Low (e : Int) : Prop := ptr e = true → pn e < 6
theorem lowV_u {v : Int} (h : U64 v) : U64 (lowV v) := by
  obtain ⟨h0, h1⟩ := h
  unfold lowV
  split
  · have := pn_u v
    unfold pn at *
    exact ⟨by omega, by omega⟩
  · exact ⟨h0, h1⟩
theorem lowV_low {v : Int} (h : U64 v) : Low (lowV v) := by
  unfold Low lowV
  by_cases g : ptr v = true ∧ 5 < pn v
  · rw [if_pos g]
    intro _
    obtain ⟨h0, h1⟩ := h
    unfold pn
    omega
  · rw [if_neg g]
    intro hp
    by_cases h5 : 5 < pn v
    · exact absurd ⟨hp, h5⟩ g
    · omega
theorem num_zero : ∀ l o, num (fun _ => 0) o l = 0
  | 0, _ => rfl
  | l + 1, o => by simp only [num, num_zero l]; rfl
theorem cm_low (f : Nat → Int × Int) : ∀ k, (∀ i, i < k → U64 (f i).2) → ∀ j : Nat, Low (num (cm 8 (lf f) k) (8 * j) 8)
  | 0, _, j => by
    have : num (cm 8 (lf f) 0) (8 * j) 8 = 0 := num_zero 8 _
    rw [this]
    intro _; decide
  | k + 1, h, j => by
    have ih := cm_low f k (fun i hi => h i (by omega)) j
    obtain ⟨q, hq⟩ := Int.eq_ofNat_of_zero_le (show 0 ≤ (lf f k).1 from Int.emod_nonneg _ (by decide))
    have hb : (q : Int) < 3072 := by rw [← hq]; exact Int.emod_lt_of_pos _ (by decide)
    rw [at_cell (n := 8) (f := lf f) (k := k) (j := q) (v := lowV (f k).2) hq rfl (by omega)]
    by_cases e : j = q
    · subst e
      rw [num_same (lowV_u (h k (by omega)))]
      exact lowV_low (h k (by omega))
    · rw [num_far (by omega)]
      exact ih
/-- Two memories that say the same below frame 6. -/
def Agree (m1 m2 : Nat → Int) : Prop := ∀ i, i < 24576 → m1 i = m2 i
theorem num_agree {m1 m2 : Nat → Int} (h : Agree m1 m2) {t i : Int} (ht : 0 ≤ t ∧ t < 6) (hi : 0 ≤ i ∧ i < 512) : num m1 (t * 4096 + 8 * i).toNat 8 = num m2 (t * 4096 + 8 * i).toNat 8 :=
  num_eq 8 _ fun k a b => h k (by omega)
theorem down_agree {rd rd' : Int → Int → Int × Int} (a : Int) (h : ∀ t l, 0 ≤ t ∧ t < 6 → rd t (ix a l) = rd' t (ix a l)) (hl : ∀ t l, 0 ≤ t ∧ t < 6 → Low (rd t (ix a l)).1) : ∀ (l : Nat) (t : Int), 0 ≤ t ∧ t < 6 → down rd a l t = down rd' a l t
  | 0, _, _ => rfl
  | l + 1, t, ht => by
    have e := h t l ht
    have hw := hl t l ht
    simp only [down, ← e]
    by_cases hp : ptr (rd t (ix a l)).1 = true
    · rw [down_agree a h hl l _ ⟨(pn_u _).1, hw hp⟩]
    · simp only [hp]
      simp
theorem guest_agree {m1 m2 : Nat → Int} (h : Agree m1 m2) (hl : ∀ j : Nat, Low (num m1 (8 * j) 8)) {root : Int} (hr : 0 ≤ root ∧ root < 6) (g a : Int) : guest 0 8 m1 root g a = guest 0 8 m2 root g a := by
  unfold guest
  split
  · rfl
  split
  · rfl
  rw [down_agree g (rd := phys 0 8 m1) (rd' := phys 0 8 m2) (fun t l ht => by
      have hi := ix_u g l
      rw [phys_cell (by omega) hi (by decide), phys_cell (by omega) hi (by decide), num_agree h ht hi]) (fun t l ht => by
      have hi := ix_u g l
      rw [phys_cell (by omega) hi (by decide)]
      have := hl (t * 512 + ix g l).toNat
      rwa [show 8 * (t * 512 + ix g l).toNat = (t * 4096 + 8 * ix g l).toNat by omega] at this) 3 root hr]
theorem virt0 {mem : Nat → Int} {t i : Int} (ht : 0 ≤ t ∧ t < 8) (hi : 0 ≤ i ∧ i < 512) : virt 0 8 mem 0 t i = (num mem (t * 4096 + 8 * i).toNat 8, 0) := by
  have h : hasB 0 8 (t * 4096 + 8 * i) 8 = true := decide_eq_true (by omega)
  have g : guest 0 8 mem 0 (t * 4096 + 8 * i) 2 = (t * 4096 + 8 * i, 14, 0) := if_pos rfl
  unfold virt
  rw [g, if_neg (fun h => h rfl), if_pos h, Int.sub_zero]
/-- A translation hangs on the tables below frame 6 alone. -/
theorem translate_agree {m1 m2 : Nat → Int} (h : Agree m1 m2) (hl : ∀ j : Nat, Low (num m1 (8 * j) 8)) (satp root va a : Int) (user sum mxr : Bool) (hr : 0 ≤ root ∧ root < 6) (hs : 0 ≤ satp) (hs6 : satp % 17592186044416 < 6) (h0 : root ≠ 0 → satp < 1152921504606846976) :
    translate 0 8 m1 satp root user sum mxr va a = translate 0 8 m2 satp root user sum mxr va a := by
  rw [translate_fst, translate_fst]
  have ht : ∀ x, thenP 0 8 m1 root a x = thenP 0 8 m2 root a x := fun x => by
    cases x with
    | ok g => show second 0 8 m1 root g a = second 0 8 m2 root g a; unfold second; rw [guest_agree h hl hr g a]
    | page => rfl
    | bus f t i => rfl
  rw [ht]
  congr 1
  by_cases hz : root = 0
  · subst hz
    unfold fst
    rw [down_agree va (rd := virt 0 8 m1 0) (rd' := virt 0 8 m2 0) (fun t l ht => by
      have hi := ix_u va l
      rw [virt0 (by omega) hi, virt0 (by omega) hi, num_agree h ht hi]) (fun t l ht => by
      have hi := ix_u va l
      rw [virt0 (by omega) hi]
      have := hl (t * 512 + ix va l).toNat
      rwa [show 8 * (t * 512 + ix va l).toNat = (t * 4096 + 8 * ix va l).toNat by omega] at this) 3 (satp % 17592186044416) ⟨by omega, hs6⟩]
  · have hm : satp / 1152921504606846976 = 0 := by have := h0 hz; omega
    unfold fst
    rw [if_pos hm, if_pos hm]
end Go.Proofs.Ytfoocpcpljlndaa.Duo
