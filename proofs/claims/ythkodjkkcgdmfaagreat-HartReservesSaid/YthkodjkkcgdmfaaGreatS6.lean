/- Parts of the walks and laws for the claim: Tab; no conditions beyond the theorems' own. -/
import Derived.Test.YthkodjkkcgdmfaaGreatS5
section
namespace Go.Proofs.YthkodjkkcgdmfaaGreat.Tab
open Go Go.RowKit Go.Proofs.YthkodjkkcgdmfaaGreat.Mem
set_option linter.unusedVariables false
set_option linter.unusedSimpArgs false
/-- A word of 64 bits. -/
def U64 (v : Int) : Prop := 0 ≤ v ∧ v < 18446744073709551616
/-- The low byte of an entry, and its bits. -/
def lo (e : Int) : Nat := e.toNat % 256
def bt (e : Int) (i : Nat) : Bool := (lo e).testBit i
theorem or_add {a b : Int} (s : Nat) (ha : U64 a) (hd : a % (2 ^ s : Nat) = 0) (hb : 0 ≤ b ∧ b < (2 ^ s : Nat)) (hb2 : b < 18446744073709551616) : bits .or .u64 a b = a + b := by
  obtain ⟨a1, a2⟩ := ha
  obtain ⟨b1, b2⟩ := hb
  rw [u64_or _ _ a1 a2 b1 hb2]
  obtain ⟨A, rfl⟩ := Int.eq_ofNat_of_zero_le a1
  obtain ⟨B, rfl⟩ := Int.eq_ofNat_of_zero_le b1
  simp only [Int.toNat_natCast]
  have hA : A = 2 ^ s * (A / 2 ^ s) := by
    have : A % 2 ^ s = 0 := by omega
    have := Nat.div_add_mod A (2 ^ s)
    omega
  have : A ||| B = A + B := by
    rw [hA]
    exact (Nat.two_pow_add_eq_or_of_lt (by omega) _).symm
  omega
/-- Is an entry wrong; does it point to a table; the page that it names. -/
def wrongB (e : Int) : Bool := !bt e 0 || (bt e 2 && !bt e 1) || decide (18014398509481984 ≤ e)
def ptr (e : Int) : Bool := !bt e 1 && !bt e 3
def pn (e : Int) : Int := e / 1024 % 17592186044416
/-- A leaf whose page is no multiple of its level's. -/
def odd (e : Int) (l : Nat) : Bool := decide (pn e % (2 ^ (9 * l) : Nat) ≠ 0)
/-- The address that a leaf makes. -/
def at_ (e : Int) (l : Nat) (addr : Int) : Int := pn e * 4096 + addr % (2 ^ (12 + 9 * l) : Nat)
/-- The place in a table. -/
def ix (addr : Int) (l : Nat) : Int := addr / (2 ^ (12 + 9 * l) : Nat) % 512
/-- What a walk comes to: a read that failed, a fault of the tables, a leaf and its level. -/
inductive Res where | bus (f t i : Int) | page | leaf (e : Int) (l : Nat)
def down (rd : Int → Int → Int × Int) (addr : Int) : Nat → Int → Res
  | 0, _ => .page
  | l + 1, t =>
    if (rd t (ix addr l)).2 ≠ 0 then .bus (rd t (ix addr l)).2 t (ix addr l) else if wrongB (rd t (ix addr l)).1 = true then .page
    else if ptr (rd t (ix addr l)).1 = true then down rd addr l (pn (rd t (ix addr l)).1) else if odd (rd t (ix addr l)).1 l = true then .page else .leaf (rd t (ix addr l)).1 l
/-- A table's entry in a memory. -/
def phys (base : Int) (n : Nat) (mem : Nat → Int) (t i : Int) : Int × Int :=
  if 4503599627370496 ≤ t then (0, 3) else if hasB base n (t * 4096 + 8 * i) 8 = true then (num mem (t * 4096 + 8 * i - base).toNat 8, 0) else (0, 3)
/-- Does a leaf of the second stage let an access; what it allows. -/
def lets2 (e a : Int) : Bool := bt e 4 && bt e 6 && (if a = 1 then bt e 3 else if a = 2 then bt e 1 else if a = 3 then bt e 2 && bt e 7 else false)
def perm (e : Int) : Int := (if bt e 1 = true then 2 else 0) + (if bt e 2 = true ∧ bt e 7 = true then 4 else 0) + (if bt e 3 = true then 8 else 0)
def guestOf (gpa a : Int) : Res → Int × Int × Int
  | .bus f _ _ => (0, 0, f)
  | .page => (0, 0, 2)
  | .leaf e l => if lets2 e a = true then (at_ e l gpa, perm e, 0) else (0, 0, 2)
/-- The second stage. -/
def guest (base : Int) (n : Nat) (mem : Nat → Int) (root gpa a : Int) : Int × Int × Int :=
  if root = 0 then (gpa, 14, 0) else if 549755813888 ≤ gpa then (0, 0, 2) else guestOf gpa a (down (phys base n mem) gpa 3 root)
/-- Does a leaf of the first stage let an access? -/
def lets1 (user sum mxr : Bool) (e a : Int) : Bool :=
  !((user && !bt e 4) || (!user && bt e 4 && (decide (a = 1) || !sum))) && bt e 6 && (if a = 1 then bt e 3 else if a = 2 then bt e 1 || (mxr && bt e 3) else if a = 3 then bt e 2 && bt e 7 else false)
/-- What a translation comes to: the physical and the guest-physical address, the fault, whether it was an entry's. -/
structure Place where
  pa : Int
  gpa : Int
  fault : Int
  walk : Bool
def second (base : Int) (n : Nat) (mem : Nat → Int) (root g a : Int) : Place :=
  if (guest base n mem root g a).2.2 ≠ 0 then ⟨0, g, (guest base n mem root g a).2.2, false⟩ else ⟨(guest base n mem root g a).1, g, 0, false⟩
/-- Is a virtual address one of 39 bits, extended? -/
def canon (va : Int) : Bool := decide (va < 274877906944) || decide (18446743798831644672 ≤ va)
def firstOf (user sum mxr : Bool) (va a : Int) : Res → Place ⊕ Int
  | .bus f t i => .inl ⟨0, t * 4096 + 8 * i, f, true⟩
  | .page => .inl ⟨0, 0, 1, false⟩
  | .leaf e l => if lets1 user sum mxr e a = true then .inr (at_ e l va) else .inl ⟨0, 0, 1, false⟩
/-- The first stage's answer: a fault and where, or the guest-physical address. -/
def first (rd : Int → Int → Int × Int) (satp : Int) (user sum mxr : Bool) (va a : Int) : Place ⊕ Int :=
  if satp / 1152921504606846976 = 0 then .inr va else if satp / 1152921504606846976 ≠ 8 then .inl ⟨0, 0, 1, false⟩
  else if canon va = false then .inl ⟨0, 0, 1, false⟩ else firstOf user sum mxr va a (down rd va 3 (satp % 17592186044416))
end Go.Proofs.YthkodjkkcgdmfaaGreat.Tab
end
