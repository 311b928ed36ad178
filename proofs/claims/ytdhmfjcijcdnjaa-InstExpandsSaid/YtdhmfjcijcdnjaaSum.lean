/- Ors of parts that do not meet are sums. -/
import Derived.Test.YtdhmfjcijcdnjaaEncC
import Derived.Test.YtdhmfjcijcdnjaaEncR
import Derived.Test.YtdhmfjcijcdnjaaFits
namespace Go.Proofs.Ytdhmfjcijcdnjaa.Enc
open Go Go.RowKit
set_option linter.unusedVariables false
set_option linter.unusedSimpArgs false

theorem bor_bv (x y : Int) : bor x y = ((BitVec.ofInt 32 x ||| BitVec.ofInt 32 y).toNat : Int) := by
  show IntKind.u32.wrap ((BitVec.ofInt 32 x ||| BitVec.ofInt 32 y).toNat : Int) = _
  have := (BitVec.ofInt 32 x ||| BitVec.ofInt 32 y).isLt
  show (_ : Int) % 4294967296 = _
  omega
theorem ofInt_toNat (z : BitVec 32) : BitVec.ofInt 32 ((z.toNat : Nat) : Int) = z := by
  rw [BitVec.ofInt_natCast, BitVec.ofNat_toNat, BitVec.setWidth_eq]
theorem bor_w (x y : Int) : W32 (bor x y) := by
  rw [bor_bv]
  have := (BitVec.ofInt 32 x ||| BitVec.ofInt 32 y).isLt
  exact ⟨by omega, by omega⟩
theorem bor_comm (x y : Int) : bor x y = bor y x := by rw [bor_bv, bor_bv, BitVec.or_comm]
theorem bor_assoc (x y z : Int) : bor (bor x y) z = bor x (bor y z) := by
  rw [bor_bv (bor x y) z, bor_bv x (bor y z), bor_bv x y, bor_bv y z, ofInt_toNat, ofInt_toNat, BitVec.or_assoc]
instance : Std.Associative bor := ⟨bor_assoc⟩
instance : Std.Commutative bor := ⟨bor_comm⟩
/-- One part more, above those that are there. -/
theorem bor_step {x v : Int} (l : Nat) (p : Int) (hp : p = (2 ^ l : Nat)) (hx : 0 ≤ x ∧ x < p) (hv : 0 ≤ v) (hs : v * p < 4294967296) (hp32 : p ≤ 4294967296) : bor x (v * p) = x + v * p := by
  rw [bor_comm]
  have h0 : 0 ≤ v * p := Int.mul_nonneg hv (by omega)
  have := u32_orp (a := v * p) (b := x) l p hp ⟨h0, hs⟩ (Int.mul_emod_left v p) hx (by omega)
  show bits .or .u32 (v * p) x = _
  rw [this, Int.add_comm]
theorem bor_zero {x : Int} (hx : 0 ≤ x ∧ x < 4294967296) : bor x 0 = x := by
  have := u32_orp (a := 0) (b := x) 32 4294967296 rfl ⟨by decide, by decide⟩ (by decide) hx (by omega)
  rw [bor_comm]
  show bits .or .u32 0 x = x
  rw [this]; omega
theorem pt_of {v : Int} (n l : Nat) (N P q : Int) (hN : N = (2 ^ n : Nat)) (hP : P = (2 ^ l : Nat)) (h : v % N = q) : pt v n l = q * P := by
  subst hN hP h; rfl
theorem pt0 (n l : Nat) : pt 0 n l = 0 := by unfold pt; simp
end Go.Proofs.Ytdhmfjcijcdnjaa.Enc
