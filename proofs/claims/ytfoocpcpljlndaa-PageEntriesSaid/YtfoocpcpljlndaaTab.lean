/- The walk down the tables, in plain words: what both stages come to. -/
import Derived.Test.YtfoocpcpljlndaaRamC
namespace Go.Proofs.Ytfoocpcpljlndaa.Tab
open Go Go.RowKit Go.Proofs.Ytfoocpcpljlndaa.Mem
set_option linter.unusedVariables false
set_option linter.unusedSimpArgs false

/-- A word of 64 bits. -/
def U64 (v : Int) : Prop := 0 ≤ v ∧ v < 18446744073709551616
/-- The low byte of an entry, and its bits. -/
def lo (e : Int) : Nat := e.toNat % 256
def bt (e : Int) (i : Nat) : Bool := (lo e).testBit i
theorem lo_lt (e : Int) : lo e < 256 := Nat.mod_lt _ (by decide)
theorem and_lo {e : Int} (c : Nat) (h : U64 e) (hc : c < 256) : bits .and .u64 e c = ((lo e &&& c : Nat) : Int) := by
  rw [u64_and _ _ h.1 h.2 (by omega) (by omega), Int.toNat_natCast]
  have h1 : c = 255 &&& c := by
    have := Nat.and_two_pow_sub_one_eq_mod c 8
    rw [Nat.and_comm]
    exact (this.trans (Nat.mod_eq_of_lt hc)).symm
  have h2 : e.toNat &&& 255 = lo e := Nat.and_two_pow_sub_one_eq_mod e.toNat 8
  have h3 : e.toNat &&& c = lo e &&& c := by
    conv => lhs; rw [h1, ← Nat.and_assoc, h2]
  rw [h3]
theorem and_mask {a : Int} (s : Nat) (h : U64 a) (hs : s < 64) : bits .and .u64 a ((2 ^ s - 1 : Nat) : Int) = a % (2 ^ s : Nat) := by
  have hp : 2 ^ s < 18446744073709551616 := Nat.pow_lt_pow_right (by decide) hs
  rw [u64_and _ _ h.1 h.2 (by omega) (by omega), Int.toNat_natCast, Nat.and_two_pow_sub_one_eq_mod]
  obtain ⟨A, rfl⟩ := Int.eq_ofNat_of_zero_le h.1
  rw [Int.toNat_natCast, Int.natCast_emod]
theorem or_add {a b : Int} (s : Nat) (ha : U64 a) (hd : a % (2 ^ s : Nat) = 0) (hb : 0 ≤ b ∧ b < (2 ^ s : Nat)) (hb2 : b < 18446744073709551616) : bits .or .u64 a b = a + b := by
  obtain ⟨a1, a2⟩ := ha
  obtain ⟨b1, b2⟩ := hb
  rw [u64_or _ _ a1 a2 b1 hb2]
  obtain ⟨A, rfl⟩ := Int.eq_ofNat_of_zero_le a1
  obtain ⟨B, rfl⟩ := Int.eq_ofNat_of_zero_le b1
  simp only [Int.toNat_natCast]
  have hA : A = 2 ^ s * (A / 2 ^ s) := by
    have : A % 2 ^ s = 0 := by omega
    have := Nat.div_add_mod A (2 ^ s)
    omega
  have : A ||| B = A + B := by
    rw [hA]
    exact (Nat.two_pow_add_eq_or_of_lt (by omega) _).symm
  omega

/-- Is an entry wrong; does it point to a table; the page that it names. -/
def wrongB (e : Int) : Bool := !bt e 0 || (bt e 2 && !bt e 1) || decide (18014398509481984 ≤ e)
def ptr (e : Int) : Bool := !bt e 1 && !bt e 3
def pn (e : Int) : Int := e / 1024 % 17592186044416
/-- A leaf whose page is no multiple of its level's. -/
def odd (e : Int) (l : Nat) : Bool := decide (pn e % (2 ^ (9 * l) : Nat) ≠ 0)
/-- The address that a leaf makes. -/
def at_ (e : Int) (l : Nat) (addr : Int) : Int := pn e * 4096 + addr % (2 ^ (12 + 9 * l) : Nat)
/-- The place in a table. -/
def ix (addr : Int) (l : Nat) : Int := addr / (2 ^ (12 + 9 * l) : Nat) % 512
/-- What a walk comes to: a read that failed, a fault of the tables, a leaf and its level. -/
inductive Res where | bus (f t i : Int) | page | leaf (e : Int) (l : Nat)
def down (rd : Int → Int → Int × Int) (addr : Int) : Nat → Int → Res
  | 0, _ => .page
  | l + 1, t =>
    if (rd t (ix addr l)).2 ≠ 0 then .bus (rd t (ix addr l)).2 t (ix addr l) else if wrongB (rd t (ix addr l)).1 = true then .page
    else if ptr (rd t (ix addr l)).1 = true then down rd addr l (pn (rd t (ix addr l)).1) else if odd (rd t (ix addr l)).1 l = true then .page else .leaf (rd t (ix addr l)).1 l
/-- A table's entry in a memory. -/
def phys (base : Int) (n : Nat) (mem : Nat → Int) (t i : Int) : Int × Int :=
  if 4503599627370496 ≤ t then (0, 3) else if hasB base n (t * 4096 + 8 * i) 8 = true then (num mem (t * 4096 + 8 * i - base).toNat 8, 0) else (0, 3)
/-- Does a leaf of the second stage let an access; what it allows. -/
def lets2 (e a : Int) : Bool := bt e 4 && bt e 6 && (if a = 1 then bt e 3 else if a = 2 then bt e 1 else if a = 3 then bt e 2 && bt e 7 else false)
def perm (e : Int) : Int := (if bt e 1 = true then 2 else 0) + (if bt e 2 = true ∧ bt e 7 = true then 4 else 0) + (if bt e 3 = true then 8 else 0)
def guestOf (gpa a : Int) : Res → Int × Int × Int
  | .bus f _ _ => (0, 0, f)
  | .page => (0, 0, 2)
  | .leaf e l => if lets2 e a = true then (at_ e l gpa, perm e, 0) else (0, 0, 2)
/-- The second stage. -/
def guest (base : Int) (n : Nat) (mem : Nat → Int) (root gpa a : Int) : Int × Int × Int :=
  if root = 0 then (gpa, 14, 0) else if 549755813888 ≤ gpa then (0, 0, 2) else guestOf gpa a (down (phys base n mem) gpa 3 root)
/-- Does a leaf of the first stage let an access? -/
def lets1 (user sum mxr : Bool) (e a : Int) : Bool :=
  !((user && !bt e 4) || (!user && bt e 4 && (decide (a = 1) || !sum))) && bt e 6 && (if a = 1 then bt e 3 else if a = 2 then bt e 1 || (mxr && bt e 3) else if a = 3 then bt e 2 && bt e 7 else false)
/-- An entry of the first stage. -/
def virt (base : Int) (n : Nat) (mem : Nat → Int) (root t i : Int) : Int × Int :=
  if (guest base n mem root (t * 4096 + 8 * i) 2).2.2 ≠ 0 then (0, (guest base n mem root (t * 4096 + 8 * i) 2).2.2)
  else if hasB base n (guest base n mem root (t * 4096 + 8 * i) 2).1 8 = true then (num mem ((guest base n mem root (t * 4096 + 8 * i) 2).1 - base).toNat 8, 0) else (0, 3)
/-- What a translation comes to: the physical and the guest-physical address, the fault, whether it was an entry's. -/
structure Place where
  pa : Int
  gpa : Int
  fault : Int
  walk : Bool
def second (base : Int) (n : Nat) (mem : Nat → Int) (root g a : Int) : Place :=
  if (guest base n mem root g a).2.2 ≠ 0 then ⟨0, g, (guest base n mem root g a).2.2, false⟩ else ⟨(guest base n mem root g a).1, g, 0, false⟩
/-- Is a virtual address one of 39 bits, extended? -/
def canon (va : Int) : Bool := decide (va < 274877906944) || decide (18446743798831644672 ≤ va)
def firstOf (user sum mxr : Bool) (va a : Int) : Res → Place ⊕ Int
  | .bus f t i => .inl ⟨0, t * 4096 + 8 * i, f, true⟩
  | .page => .inl ⟨0, 0, 1, false⟩
  | .leaf e l => if lets1 user sum mxr e a = true then .inr (at_ e l va) else .inl ⟨0, 0, 1, false⟩
/-- The first stage's answer: a fault and where, or the guest-physical address. -/
def first (rd : Int → Int → Int × Int) (satp : Int) (user sum mxr : Bool) (va a : Int) : Place ⊕ Int :=
  if satp / 1152921504606846976 = 0 then .inr va else if satp / 1152921504606846976 ≠ 8 then .inl ⟨0, 0, 1, false⟩
  else if canon va = false then .inl ⟨0, 0, 1, false⟩ else firstOf user sum mxr va a (down rd va 3 (satp % 17592186044416))
def translate (base : Int) (n : Nat) (mem : Nat → Int) (satp root : Int) (user sum mxr : Bool) (va a : Int) : Place :=
  match first (virt base n mem root) satp user sum mxr va a with
  | .inl p => p
  | .inr g => second base n mem root g a

/-! What lies within the words. -/
theorem num_u64 {mem : Nat → Int} {o s : Nat} (h : ∀ i, o ≤ i → i < o + 8 → 0 ≤ mem i ∧ mem i < 256) : U64 (num mem o 8) := by
  have := num_range 8 o h
  exact ⟨this.1, by have := this.2; omega⟩
theorem pn_u (e : Int) : 0 ≤ pn e ∧ pn e < 17592186044416 := by unfold pn; omega
theorem ix_u (addr : Int) (l : Nat) : 0 ≤ ix addr l ∧ ix addr l < 512 := by unfold ix; omega
theorem phys_u {base : Int} {n : Nat} {mem : Nat → Int} {t i : Int} (hb : 0 ≤ base) (hm : ∀ i, i < n * 4096 → 0 ≤ mem i ∧ mem i < 256) : U64 (phys base n mem t i).1 ∧ ((phys base n mem t i).2 = 0 ∨ (phys base n mem t i).2 = 3) := by
  unfold phys
  split
  · exact ⟨⟨by decide, by decide⟩, .inr rfl⟩
  · split
    · rename_i h
      have := of_decide_eq_true h
      exact ⟨num_u64 (s := 0) fun i h1 h2 => hm i (by omega), .inl rfl⟩
    · exact ⟨⟨by decide, by decide⟩, .inr rfl⟩
theorem pow_fit : ∀ l : Nat, l ≤ 2 → (2 : Nat) ^ (12 + 9 * l) ≤ 1073741824
  | 0, _ => by decide | 1, _ => by decide | 2, _ => by decide
  | n + 3, h => by omega
theorem at_u (e : Int) {l : Nat} (hl : l ≤ 2) (addr : Int) : 0 ≤ at_ e l addr ∧ at_ e l addr < 144115188075855872 := by
  have h := pn_u e
  have h2 := pow_fit l hl
  have h3 : 0 < 2 ^ (12 + 9 * l) := Nat.pow_pos (by decide)
  have h4 : 0 ≤ addr % (2 ^ (12 + 9 * l) : Nat) := Int.emod_nonneg _ (by omega)
  have h5 := Int.emod_lt_of_pos addr (show (0 : Int) < (2 ^ (12 + 9 * l) : Nat) by omega)
  unfold at_; omega
theorem down_leaf {rd : Int → Int → Int × Int} {addr : Int} (hr : ∀ t l, U64 (rd t (ix addr l)).1) : ∀ (l : Nat) (t e : Int) (k : Nat), down rd addr l t = .leaf e k → U64 e ∧ k < l ∧ wrongB e = false ∧ ptr e = false ∧ odd e k = false := by
  intro l
  induction l with
  | zero =>
    intro t e k h
    simp [down] at h
  | succ l ih =>
    intro t e k h
    simp only [down] at h
    split at h <;> try cases h
    split at h <;> try cases h
    split at h
    · obtain ⟨h1, h2, h3⟩ := ih _ _ _ h
      exact ⟨h1, by omega, h3⟩
    · split at h <;> try cases h
      rename_i h1 h2 h3 h4
      exact ⟨hr _ _, Nat.lt_succ_self _, by simpa using h2, by simpa using h3, by simpa using h4⟩
theorem down_bus {rd : Int → Int → Int × Int} {P : Int → Prop} {addr : Int} (hr : ∀ t l, (rd t (ix addr l)).2 = 0 ∨ P (rd t (ix addr l)).2) : ∀ (l : Nat) (t f q i : Int), down rd addr l t = .bus f q i → f ≠ 0 ∧ P f := by
  intro l
  induction l with
  | zero =>
    intro t f q i h
    simp [down] at h
  | succ l ih =>
    intro t f q i h
    simp only [down] at h
    split at h
    · rename_i h1
      cases h
      exact ⟨h1, (hr _ _).resolve_left h1⟩
    · split at h <;> try cases h
      split at h
      · exact ih _ _ _ _ h
      · split at h <;> cases h
end Go.Proofs.Ytfoocpcpljlndaa.Tab
