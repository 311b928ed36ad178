/- Parts of the walks and laws for the claim: Dec, OpenInst, Hrt, HrtB, HrtC, OpenH, Kn, Mid; no conditions beyond the theorems' own. -/
import Derived.Carry
import Derived.ChangeArms
import Derived.ChangeOld
import Derived.Deep.MidRow
import Derived.KernelRfl
import Derived.Laws.BitsAllLaws
import Derived.Lib.Hide
import Derived.OpenShut
import Derived.ProofKit
import Derived.ShutString
import Derived.SizedLaws
import Derived.Test.YtecpkipgkaaefaaRows
import Derived.WalkKit
import Derived.Test.YtecpkipgkaaefaaP1
import Derived.Test.YtecpkipgkaaefaaP2
import Derived.Test.YtecpkipgkaaefaaP3
import Derived.Test.YtecpkipgkaaefaaP5
section
namespace Go.Proofs.Ytecpkipgkaaefaa.Enc
open Go Go.RowKit
set_option linter.unusedVariables false
/-- An instruction's fields. -/
structure Ins where
  k : Int
  fn : Int
  rd : Int
  rs1 : Int
  rs2 : Int
  imm : Int
  sz : Int
  sg : Bool
def Ins.cells (i : Ins) : Array Value := #[.int .i64 i.k, .int .i64 i.fn, .int .i64 i.rd, .int .i64 i.rs1, .int .i64 i.rs2, .int .i64 i.imm, .int .i64 i.sz, .bool i.sg]
def Ins.zero : Ins := ⟨0, 0, 0, 0, 0, 0, 0, false⟩
/-- What Decode tells. -/
def told : Option Ins → Value
  | none => .tuple #[.agg Ins.zero.cells, .bool false]
  | some i => .tuple #[.agg i.cells, .bool true]
def brL : List Int := [1, 2, 0, 0, 3, 4, 5, 6]
def ldL : List Int := [1, 2, 4, 8, 1, 2, 4, 8]
def stL : List Int := [1, 2, 4, 8, 16, 32, 64, 128]
def csL : List Int := [0, 1, 2, 3, 0, 1, 2, 3]
def sysD (a : Int) : Option Ins :=
  if a = 115 then some ⟨11, 0, 0, 0, 0, 0, 0, false⟩
  else if a = 1048691 then some ⟨12, 0, 0, 0, 0, 0, 0, false⟩
  else if a = 270532723 then some ⟨18, 0, 0, 0, 0, 0, 0, false⟩
  else if a = 273678451 then some ⟨19, 0, 0, 0, 0, 0, 0, false⟩
  else if fd a 14 12 = 0 then (if fd a 31 25 = 9 ∧ fd a 11 7 = 0 then some ⟨20, 0, 0, fd a 19 15, fd a 24 20, 0, 0, false⟩ else none)
  else if pk csL (fd a 14 12) = 0 then none
  else some ⟨if fd a 14 12 < 4 then 13 else 14, pk csL (fd a 14 12), fd a 11 7, fd a 19 15, 0, fd a 31 20, 0, false⟩
def atD (a : Int) : Option Ins :=
  if fd a 14 12 = 2 ∨ fd a 14 12 = 3 then
    (if (atF (fd a 31 27) (fd a 24 20)).2.2 then some ⟨(atF (fd a 31 27) (fd a 24 20)).1, (atF (fd a 31 27) (fd a 24 20)).2.1, fd a 11 7, fd a 19 15, fd a 24 20, 0, if fd a 14 12 = 2 then 4 else 8, false⟩ else none)
  else none
/-- What a word says as an instruction, by its lowest bits. -/
def decOp (op a : Int) : Option Ins :=
  if op = 55 then some ⟨1, 0, fd a 11 7, 0, 0, immU a, 0, false⟩
  else if op = 23 then some ⟨2, 0, fd a 11 7, 0, 0, immU a, 0, false⟩
  else if op = 111 then some ⟨3, 0, fd a 11 7, 0, 0, immJ a, 0, false⟩
  else if op = 103 then (if fd a 14 12 = 0 then some ⟨4, 0, fd a 11 7, fd a 19 15, 0, immI a, 0, false⟩ else none)
  else if op = 99 then (if pk brL (fd a 14 12) = 0 then none else some ⟨5, pk brL (fd a 14 12), 0, fd a 19 15, fd a 24 20, immB a, 0, false⟩)
  else if op = 3 then (if fd a 14 12 < 7 then some ⟨6, 0, fd a 11 7, fd a 19 15, 0, immI a, pk ldL (fd a 14 12), decide (fd a 14 12 < 4)⟩ else none)
  else if op = 35 then (if fd a 14 12 < 4 then some ⟨7, 0, 0, fd a 19 15, fd a 24 20, immS a, pk stL (fd a 14 12), false⟩ else none)
  else if op = 19 then (if (im13 (fd a 31 26) (fd a 14 12) (fd a 25 20) (immI a)).2.2 then some ⟨9, (im13 (fd a 31 26) (fd a 14 12) (fd a 25 20) (immI a)).1, fd a 11 7, fd a 19 15, 0, (im13 (fd a 31 26) (fd a 14 12) (fd a 25 20) (immI a)).2.1, 0, false⟩ else none)
  else if op = 27 then (if (im1b (fd a 31 25) (fd a 14 12) (fd a 24 20) (immI a)).2.2 then some ⟨9, (im1b (fd a 31 25) (fd a 14 12) (fd a 24 20) (immI a)).1, fd a 11 7, fd a 19 15, 0, (im1b (fd a 31 25) (fd a 14 12) (fd a 24 20) (immI a)).2.1, 0, false⟩ else none)
  else if op = 51 then (if regF true (fd a 31 25) (fd a 14 12) = 0 then none else some ⟨8, regF true (fd a 31 25) (fd a 14 12), fd a 11 7, fd a 19 15, fd a 24 20, 0, 0, false⟩)
  else if op = 59 then (if regF false (fd a 31 25) (fd a 14 12) = 0 then none else some ⟨8, regF false (fd a 31 25) (fd a 14 12), fd a 11 7, fd a 19 15, fd a 24 20, 0, 0, false⟩)
  else if op = 15 then (if fd a 14 12 < 2 then some ⟨10, 0, 0, 0, 0, 0, 0, false⟩ else none)
  else if op = 115 then sysD a
  else if op = 47 then atD a
  else none
def dec (a : Int) : Option Ins := decOp (fd a 6 0) a
/-- A result of the inner readers: what stands there counts where they say so. -/
def Says (d : Option Ins) (e : Ending) : Prop := ∃ j ok, e = .returned (.tuple #[.agg (Ins.cells j), .bool ok]) ∧ d = if ok then some j else none
end Go.Proofs.Ytecpkipgkaaefaa.Enc
end
section
namespace Go.Proofs.Ytecpkipgkaaefaa
open Go Go.RowKit Go.ChangeShapes Go.WideShapes Go.ChangeAt
set_option linter.unusedVariables false
set_option linter.unusedSimpArgs false
section
variable {H : Type} {enc : TypeId × Value → H} {W : World} {base : Nat} {sp : Nat → Bool} {held : Bool}
theorem co_int : Try.prog.cellsOf 3 = 1 := by kernel_rfl
theorem co_bool : Try.prog.cellsOf 4 = 1 := by kernel_rfl
end
end Go.Proofs.Ytecpkipgkaaefaa
end
section
namespace Go.Proofs.Ytecpkipgkaaefaa.Hart
open Go Go.RowKit Go.Proofs.Ytecpkipgkaaefaa.Step
set_option linter.unusedVariables false
set_option linter.unusedSimpArgs false
set_option maxRecDepth 100000
/-- A hart's fields. -/
structure Hrt where
  x : Nat → Int
  pc : Int
  user : Bool
  on : Bool
  spie : Bool
  spp : Bool
  sum : Bool
  mxr : Bool
  rsv : Bool
  stvec : Int
  sscr : Int
  sepc : Int
  scause : Int
  stval : Int
  sie : Int
  sip : Int
  satp : Int
  resv : Int
def hc (h : Hrt) : Array Value := #[.int .u64 (h.x 0), .int .u64 (h.x 1), .int .u64 (h.x 2), .int .u64 (h.x 3), .int .u64 (h.x 4), .int .u64 (h.x 5), .int .u64 (h.x 6), .int .u64 (h.x 7), .int .u64 (h.x 8), .int .u64 (h.x 9), .int .u64 (h.x 10), .int .u64 (h.x 11), .int .u64 (h.x 12), .int .u64 (h.x 13), .int .u64 (h.x 14), .int .u64 (h.x 15), .int .u64 (h.x 16), .int .u64 (h.x 17), .int .u64 (h.x 18), .int .u64 (h.x 19), .int .u64 (h.x 20), .int .u64 (h.x 21), .int .u64 (h.x 22), .int .u64 (h.x 23), .int .u64 (h.x 24), .int .u64 (h.x 25), .int .u64 (h.x 26), .int .u64 (h.x 27), .int .u64 (h.x 28), .int .u64 (h.x 29), .int .u64 (h.x 30), .int .u64 (h.x 31), .int .u64 h.pc, .bool h.user, .bool h.on, .bool h.spie, .bool h.spp, .bool h.sum, .bool h.mxr, .bool h.rsv, .int .u64 h.stvec, .int .u64 h.sscr, .int .u64 h.sepc, .int .u64 h.scause, .int .u64 h.stval, .int .u64 h.sie, .int .u64 h.sip, .int .u64 h.satp, .int .u64 h.resv]
def xup (x : Nat → Int) (i : Nat) (v : Int) : Nat → Int := fun k => if k = i then v else x k
theorem hc_size (h : Hrt) : (hc h).size = 49 := rfl
theorem hc_all (h : Hrt) : (hc h).toList.all (·.oneCell') = true := rfl
theorem set_pc (h : Hrt) (v : Int) : (hc h).setIfInBounds 32 (.int .u64 v) = hc { h with pc := v } := rfl
theorem set_user (h : Hrt) (v : Bool) : (hc h).setIfInBounds 33 (.bool v) = hc { h with user := v } := rfl
theorem set_on (h : Hrt) (v : Bool) : (hc h).setIfInBounds 34 (.bool v) = hc { h with on := v } := rfl
theorem set_spie (h : Hrt) (v : Bool) : (hc h).setIfInBounds 35 (.bool v) = hc { h with spie := v } := rfl
theorem set_spp (h : Hrt) (v : Bool) : (hc h).setIfInBounds 36 (.bool v) = hc { h with spp := v } := rfl
theorem set_sum (h : Hrt) (v : Bool) : (hc h).setIfInBounds 37 (.bool v) = hc { h with sum := v } := rfl
theorem set_mxr (h : Hrt) (v : Bool) : (hc h).setIfInBounds 38 (.bool v) = hc { h with mxr := v } := rfl
theorem set_rsv (h : Hrt) (v : Bool) : (hc h).setIfInBounds 39 (.bool v) = hc { h with rsv := v } := rfl
theorem set_stvec (h : Hrt) (v : Int) : (hc h).setIfInBounds 40 (.int .u64 v) = hc { h with stvec := v } := rfl
theorem set_sscr (h : Hrt) (v : Int) : (hc h).setIfInBounds 41 (.int .u64 v) = hc { h with sscr := v } := rfl
theorem set_sepc (h : Hrt) (v : Int) : (hc h).setIfInBounds 42 (.int .u64 v) = hc { h with sepc := v } := rfl
theorem set_scause (h : Hrt) (v : Int) : (hc h).setIfInBounds 43 (.int .u64 v) = hc { h with scause := v } := rfl
theorem set_stval (h : Hrt) (v : Int) : (hc h).setIfInBounds 44 (.int .u64 v) = hc { h with stval := v } := rfl
theorem set_sie (h : Hrt) (v : Int) : (hc h).setIfInBounds 45 (.int .u64 v) = hc { h with sie := v } := rfl
theorem set_sip (h : Hrt) (v : Int) : (hc h).setIfInBounds 46 (.int .u64 v) = hc { h with sip := v } := rfl
theorem set_satp (h : Hrt) (v : Int) : (hc h).setIfInBounds 47 (.int .u64 v) = hc { h with satp := v } := rfl
theorem set_resv (h : Hrt) (v : Int) : (hc h).setIfInBounds 48 (.int .u64 v) = hc { h with resv := v } := rfl
theorem hc_x (h : Hrt) {i : Nat} (hi : i < 32) : (hc h)[i]? = some (.int .u64 (h.x i)) := by
  obtain h1 | h1 | h1 | h1 | h1 | h1 | h1 | h1 | h1 | h1 | h1 | h1 | h1 | h1 | h1 | h1 | h1 | h1 | h1 | h1 | h1 | h1 | h1 | h1 | h1 | h1 | h1 | h1 | h1 | h1 | h1 | h1 : i = 0 ∨ i = 1 ∨ i = 2 ∨ i = 3 ∨ i = 4 ∨ i = 5 ∨ i = 6 ∨ i = 7 ∨ i = 8 ∨ i = 9 ∨ i = 10 ∨ i = 11 ∨ i = 12 ∨ i = 13 ∨ i = 14 ∨ i = 15 ∨ i = 16 ∨ i = 17 ∨ i = 18 ∨ i = 19 ∨ i = 20 ∨ i = 21 ∨ i = 22 ∨ i = 23 ∨ i = 24 ∨ i = 25 ∨ i = 26 ∨ i = 27 ∨ i = 28 ∨ i = 29 ∨ i = 30 ∨ i = 31 := by omega
  all_goals (subst h1; rfl)
theorem set_x (h : Hrt) {i : Nat} (hi : i < 32) (v : Int) : (hc h).setIfInBounds i (.int .u64 v) = hc { h with x := xup h.x i v } := by
  obtain h1 | h1 | h1 | h1 | h1 | h1 | h1 | h1 | h1 | h1 | h1 | h1 | h1 | h1 | h1 | h1 | h1 | h1 | h1 | h1 | h1 | h1 | h1 | h1 | h1 | h1 | h1 | h1 | h1 | h1 | h1 | h1 : i = 0 ∨ i = 1 ∨ i = 2 ∨ i = 3 ∨ i = 4 ∨ i = 5 ∨ i = 6 ∨ i = 7 ∨ i = 8 ∨ i = 9 ∨ i = 10 ∨ i = 11 ∨ i = 12 ∨ i = 13 ∨ i = 14 ∨ i = 15 ∨ i = 16 ∨ i = 17 ∨ i = 18 ∨ i = 19 ∨ i = 20 ∨ i = 21 ∨ i = 22 ∨ i = 23 ∨ i = 24 ∨ i = 25 ∨ i = 26 ∨ i = 27 ∨ i = 28 ∨ i = 29 ∨ i = 30 ∨ i = 31 := by omega
  all_goals (subst h1; rfl)
theorem set_x0 (h : Hrt) (v : Int) : (hc h).setIfInBounds 0 (.int .u64 v) = hc { h with x := xup h.x 0 v } := set_x h (by decide) v
end Go.Proofs.Ytecpkipgkaaefaa.Hart
end
section
namespace Go.Proofs.Ytecpkipgkaaefaa.Hart
open Go Go.RowKit
set_option linter.unusedVariables false
set_option linter.unusedSimpArgs false
theorem big_bit {a i : Nat} (h : a < 18446744073709551616) (hi : ¬ i < 64) : a.testBit i = false :=
  Nat.testBit_lt_two_pow (Nat.lt_of_lt_of_le h (Nat.pow_le_pow_right (n := 2) (i := 64) (by decide) (by omega)))
theorem an1 (a : Nat) (h : a < 18446744073709551616) : a &&& 18446744073709551614 = a / 2 * 2 := by
  apply Nat.eq_of_testBit_eq
  intro i
  have e : (18446744073709551614 : Nat) = 2 ^ 64 - (1 + 1) := by decide
  rw [Nat.testBit_and, e, Nat.testBit_two_pow_sub_succ (by decide), show a / 2 * 2 = (a / 2 ^ 1) * 2 ^ 1 by simp, Nat.testBit_mul_two_pow, Nat.testBit_div_two_pow]
  by_cases h0 : i = 0
  · subst h0; simp
  · have h1 : 1 ≤ i := by omega
    have h2 : (1 : Nat).testBit i = false := by
      rw [show (1 : Nat) = 2 ^ 0 by decide, Nat.testBit_two_pow]
      exact decide_eq_false (by omega)
    rw [h2, show i - 1 + 1 = i by omega]
    by_cases hi : i < 64
    · simp [hi, h1]
    · simp [big_bit h hi]
theorem an3 (a : Nat) (h : a < 18446744073709551616) : a &&& 18446744073709551612 = a / 4 * 4 := by
  apply Nat.eq_of_testBit_eq
  intro i
  have e : (18446744073709551612 : Nat) = 2 ^ 64 - (3 + 1) := by decide
  have e3 : (3 : Nat) = 2 ^ 2 - (0 + 1) := by decide
  rw [Nat.testBit_and, e, Nat.testBit_two_pow_sub_succ (by decide), show a / 4 * 4 = (a / 2 ^ 2) * 2 ^ 2 by simp, Nat.testBit_mul_two_pow, Nat.testBit_div_two_pow, e3, Nat.testBit_two_pow_sub_succ (by decide), Nat.zero_testBit]
  by_cases h0 : i < 2
  · simp [h0, show ¬ 2 ≤ i by omega]
  · have h1 : 2 ≤ i := by omega
    rw [show i - 2 + 2 = i by omega]
    by_cases hi : i < 64
    · simp [hi, h1, h0]
    · simp [big_bit h hi]
theorem an2 (a : Nat) (h : a < 18446744073709551616) : a &&& 18446744073709551613 = a / 4 * 4 + a % 2 := by
  have h2 : (a / 4 * 4) ||| (a % 2) = a / 4 * 4 + a % 2 := by
    have := Nat.two_pow_add_eq_or_of_lt (i := 2) (b := a % 2) (by omega) (a / 4)
    rw [show 2 ^ 2 * (a / 4) = a / 4 * 4 by omega] at this
    exact this.symm
  rw [← h2]
  apply Nat.eq_of_testBit_eq
  intro i
  have e : (18446744073709551613 : Nat) = 2 ^ 64 - (2 + 1) := by decide
  rw [Nat.testBit_and, e, Nat.testBit_two_pow_sub_succ (by decide), Nat.testBit_or, show a / 4 * 4 = (a / 2 ^ 2) * 2 ^ 2 by simp, Nat.testBit_mul_two_pow, Nat.testBit_div_two_pow, show a % 2 = a % 2 ^ 1 by simp, Nat.testBit_mod_two_pow, show (2 : Nat).testBit i = (2 ^ 1).testBit i by rfl, Nat.testBit_two_pow]
  by_cases h0 : i = 0
  · subst h0; simp
  by_cases h1 : i = 1
  · subst h1; simp
  have h3 : 2 ≤ i := by omega
  rw [show i - 2 + 2 = i by omega]
  by_cases hi : i < 64
  · simp [hi, h3, show ¬ i < 1 by omega, show ¬ 1 = i by omega]
  · simp [big_bit h hi, show ¬ i < 1 by omega]
/-- Sixty-four bits. -/
structure U64 (v : Int) : Prop where mk :: (out : 0 ≤ v ∧ v < 18446744073709551616)
theorem u_an1 {v : Int} (h : U64 v) : bits .andNot .u64 v 1 = v / 2 * 2 := by
  obtain ⟨n, rfl⟩ := Int.eq_ofNat_of_zero_le h.out.1
  have := h.out
  have e := u64_andNot_nat n 1 (by omega) (by decide)
  rw [an1 n (by omega)] at e
  exact e.trans (by omega)
theorem u_an3 {v : Int} (h : U64 v) : bits .andNot .u64 v 3 = v / 4 * 4 := by
  obtain ⟨n, rfl⟩ := Int.eq_ofNat_of_zero_le h.out.1
  have := h.out
  have e := u64_andNot_nat n 3 (by omega) (by decide)
  rw [an3 n (by omega)] at e
  exact e.trans (by omega)
theorem u_an2 {v : Int} (h : U64 v) : bits .andNot .u64 v 2 = v / 4 * 4 + v % 2 := by
  obtain ⟨n, rfl⟩ := Int.eq_ofNat_of_zero_le h.out.1
  have := h.out
  have e := u64_andNot_nat n 2 (by omega) (by decide)
  rw [an2 n (by omega)] at e
  exact e.trans (by omega)
end Go.Proofs.Ytecpkipgkaaefaa.Hart
end
section
namespace Go.Proofs.Ytecpkipgkaaefaa.Hart
open Go Go.RowKit Go.Proofs.Ytecpkipgkaaefaa.Step Go.Proofs.Ytecpkipgkaaefaa.Enc
set_option linter.unusedVariables false
set_option linter.unusedSimpArgs false
set_option maxRecDepth 100000
def hv (h : Hrt) (i : Nat) : Value := (hc h).getD i undef
theorem hv_ok (h : Hrt) {i : Nat} (hi : i < 49) : (hc h)[i]? = some (hv h i) := by
  have : i < (hc h).size := hi
  simp [hv, Array.getD_eq_getD_getElem?, Array.getElem?_eq_getElem this]
theorem hv_pc (h : Hrt) : hv h 32 = .int .u64 h.pc := rfl
theorem hv_x0 (h : Hrt) : hv h 0 = .int .u64 (h.x 0) := rfl
theorem hv_user (h : Hrt) : hv h 33 = .bool h.user := rfl
theorem hv_on (h : Hrt) : hv h 34 = .bool h.on := rfl
theorem hv_spie (h : Hrt) : hv h 35 = .bool h.spie := rfl
theorem hv_spp (h : Hrt) : hv h 36 = .bool h.spp := rfl
theorem hv_sum (h : Hrt) : hv h 37 = .bool h.sum := rfl
theorem hv_mxr (h : Hrt) : hv h 38 = .bool h.mxr := rfl
theorem hv_rsv (h : Hrt) : hv h 39 = .bool h.rsv := rfl
theorem hv_stvec (h : Hrt) : hv h 40 = .int .u64 h.stvec := rfl
theorem hv_sscr (h : Hrt) : hv h 41 = .int .u64 h.sscr := rfl
theorem hv_sepc (h : Hrt) : hv h 42 = .int .u64 h.sepc := rfl
theorem hv_scause (h : Hrt) : hv h 43 = .int .u64 h.scause := rfl
theorem hv_stval (h : Hrt) : hv h 44 = .int .u64 h.stval := rfl
theorem hv_sie (h : Hrt) : hv h 45 = .int .u64 h.sie := rfl
theorem hv_sip (h : Hrt) : hv h 46 = .int .u64 h.sip := rfl
theorem hv_satp (h : Hrt) : hv h 47 = .int .u64 h.satp := rfl
theorem hv_resv (h : Hrt) : hv h 48 = .int .u64 h.resv := rfl
def zh : Hrt := ⟨fun _ => 0, 0, false, false, false, false, false, false, false, 0, 0, 0, 0, 0, 0, 0, 0, 0⟩
theorem zero_hart : (Try.prog.info? 25).bind (·.zero) = some (.agg (hc zh)) := by kernel_rfl
theorem size_hart (h : Hrt) : (Try.prog.info? 25).map (·.size) = some (hc h).size := (by kernel_rfl : (Try.prog.info? 25).map (·.size) = some 49)
theorem pl_u64 : Step.plainT Try.prog 22 = true := by kernel_rfl
/-- The numbers are of 64 bits. -/
structure Fit (h : Hrt) : Prop where
  x : ∀ i, i < 32 → U64 (h.x i)
  pc : U64 h.pc
  stvec : U64 h.stvec
  sscr : U64 h.sscr
  sepc : U64 h.sepc
  scause : U64 h.scause
  stval : U64 h.stval
  sie : U64 h.sie
  sip : U64 h.sip
  satp : U64 h.satp
  resv : U64 h.resv
def msk (v : Int) : Int := bits .and .u64 v 546
/-- A hart in order. -/
def ord (h : Hrt) : Hrt := { h with x := xup h.x 0 0, pc := h.pc / 2 * 2, sepc := h.sepc / 2 * 2, stvec := h.stvec / 4 * 4 + h.stvec % 2, sie := msk h.sie, sip := msk h.sip }
set_option maxHeartbeats 2000000 in
theorem order_any (h : Hrt) (hf : Fit h) (w : World) : Calls Try.prog 34 #[.agg (hc h)] w fun e w' => e = .returned (.agg (hc (ord h))) ∧ Below w.heap.size w w' := by
  have e1 := u_an1 hf.pc
  have e2 := u_an1 hf.sepc
  have e3 := u_an2 hf.stvec
  have e4 : bits .and .u64 h.sie 546 = msk h.sie := rfl
  have e5 : bits .and .u64 h.sip 546 = msk h.sip := rfl
  clear hf
  go_enter Try.func34, Try.ntmps34
  go_wp2_with (first
    | ((with_reducible refine Step.gate_box (t := 25) rfl ?_); refine Step.fresh (cs := hc h) (T := 25) rfl ?hr ?_; (case hr => first | (go_simp; done) | (go_simp; rfl)); intro g1 w1 b hg hb; have ST := Lib.hid (S1.made b hg hb); clear b hg hb)
    | ((with_reducible refine Step.gate_alloc (t := 25) rfl ?_); refine Step.freshAlloc rfl rfl (alloc_agg zero_hart) ?_; intro g2 w2 b hg hb; replace ST := Lib.hid (ST.out.more b hg hb); clear b hg hb)
    | ((with_reducible refine Step.gate_store (t := 22) rfl ?_); refine Step.store ST.out.one rfl rfl rfl rfl rfl pl_u64 rfl rfl ?_; intro w3 nb m; simp [go_sem, set_x0, set_pc, set_user, set_on, set_spie, set_spp, set_sum, set_mxr, set_rsv, set_stvec, set_sscr, set_sepc, set_scause, set_stval, set_sie, set_sip, set_satp, set_resv] at nb; replace ST := Lib.hid (ST.out.set1 nb m); clear nb m)
    | ((with_reducible refine Step.gate_store (t := 4) rfl ?_); refine Step.store ST.out.one rfl rfl rfl rfl rfl pl_bool rfl rfl ?_; intro w3 nb m; simp [go_sem, set_x0, set_pc, set_user, set_on, set_spie, set_spp, set_sum, set_mxr, set_rsv, set_stvec, set_sscr, set_sepc, set_scause, set_stval, set_sie, set_sip, set_satp, set_resv] at nb; replace ST := Lib.hid (ST.out.set1 nb m); clear nb m)
    | ((with_reducible refine Step.gate_load (t := 22) rfl ?_); refine Step.load ST.out.one rfl rfl rfl pl_u64 (hv_ok _ (by decide)) ?_; simp only [hv_x0, hv_pc, hv_user, hv_on, hv_spie, hv_spp, hv_sum, hv_mxr, hv_rsv, hv_stvec, hv_sscr, hv_sepc, hv_scause, hv_stval, hv_sie, hv_sip, hv_satp, hv_resv])
    | ((with_reducible refine Step.gate_load (t := 4) rfl ?_); refine Step.load ST.out.one rfl rfl rfl pl_bool (hv_ok _ (by decide)) ?_; simp only [hv_x0, hv_pc, hv_user, hv_on, hv_spie, hv_spp, hv_sum, hv_mxr, hv_rsv, hv_stvec, hv_sscr, hv_sepc, hv_scause, hv_stval, hv_sie, hv_sip, hv_satp, hv_resv])
    | ((with_reducible refine Step.gate_store (t := 25) rfl ?_); refine Step.storeAll ST.out.one rfl rfl rfl rfl rfl (size_hart _) rfl (hc_all _) ?_; intro w3 nb m; replace ST := Lib.hid (ST.out.set1 nb m); clear nb m)
    | ((with_reducible refine Step.gate_load (t := 25) rfl ?_); refine Step.loadAll ST.out.one rfl rfl rfl Try.underlying25 rfl (size_hart _) ?_)
    | ((with_reducible refine Step.gate_store (t := 22) rfl ?_); refine Step.store ST.out.two rfl rfl rfl rfl rfl pl_u64 rfl rfl ?_; intro w3 nb m; simp [go_sem, set_x0, set_pc, set_user, set_on, set_spie, set_spp, set_sum, set_mxr, set_rsv, set_stvec, set_sscr, set_sepc, set_scause, set_stval, set_sie, set_sip, set_satp, set_resv] at nb; replace ST := Lib.hid (ST.out.set2 nb m); clear nb m)
    | ((with_reducible refine Step.gate_store (t := 4) rfl ?_); refine Step.store ST.out.two rfl rfl rfl rfl rfl pl_bool rfl rfl ?_; intro w3 nb m; simp [go_sem, set_x0, set_pc, set_user, set_on, set_spie, set_spp, set_sum, set_mxr, set_rsv, set_stvec, set_sscr, set_sepc, set_scause, set_stval, set_sie, set_sip, set_satp, set_resv] at nb; replace ST := Lib.hid (ST.out.set2 nb m); clear nb m)
    | ((with_reducible refine Step.gate_load (t := 22) rfl ?_); refine Step.load ST.out.two rfl rfl rfl pl_u64 (hv_ok _ (by decide)) ?_; simp only [hv_x0, hv_pc, hv_user, hv_on, hv_spie, hv_spp, hv_sum, hv_mxr, hv_rsv, hv_stvec, hv_sscr, hv_sepc, hv_scause, hv_stval, hv_sie, hv_sip, hv_satp, hv_resv])
    | ((with_reducible refine Step.gate_load (t := 4) rfl ?_); refine Step.load ST.out.two rfl rfl rfl pl_bool (hv_ok _ (by decide)) ?_; simp only [hv_x0, hv_pc, hv_user, hv_on, hv_spie, hv_spp, hv_sum, hv_mxr, hv_rsv, hv_stvec, hv_sscr, hv_sepc, hv_scause, hv_stval, hv_sie, hv_sip, hv_satp, hv_resv])
    | ((with_reducible refine Step.gate_store (t := 25) rfl ?_); refine Step.storeAll ST.out.two rfl rfl rfl rfl rfl (size_hart _) rfl (hc_all _) ?_; intro w3 nb m; replace ST := Lib.hid (ST.out.set2 nb m); clear nb m)
    | ((with_reducible refine Step.gate_load (t := 25) rfl ?_); refine Step.loadAll ST.out.two rfl rfl rfl Try.underlying25 rfl (size_hart _) ?_))
  refine bodyPost_ret (results_row rfl _ _ g2 _ _ _ rfl ST.out.two Try.underlying25 rfl (size_hart _)) rfl ⟨rfl, ST.out.below⟩
set_option maxHeartbeats 2000000 in
theorem rOrder_any (h : Hrt) (hf : Fit h) (w : World) : Calls Try.prog 18 #[.agg (hc h)] w fun e w' => e = .returned (.agg (hc (ord h))) ∧ Below w.heap.size w w' := by
  have p1 := hf.pc.out
  have p2 := hf.sepc.out
  have p3 := hf.stvec.out
  have e4 : bits .and .u64 h.sie 546 = msk h.sie := rfl
  have e5 : bits .and .u64 h.sip 546 = msk h.sip := rfl
  have q1 : IntKind.u64.wrap (h.pc / 2 * 2) = h.pc / 2 * 2 := IntWalk.u64_in _ (by omega)
  have q2 : IntKind.u64.wrap (h.sepc / 2 * 2) = h.sepc / 2 * 2 := IntWalk.u64_in _ (by omega)
  have q3 : IntKind.u64.wrap (h.stvec / 4 * 4) = h.stvec / 4 * 4 := IntWalk.u64_in _ (by omega)
  have q4 : IntKind.u64.wrap (h.stvec / 4 * 4 + h.stvec % 2) = h.stvec / 4 * 4 + h.stvec % 2 := IntWalk.u64_in _ (by omega)
  clear hf
  go_enter Try.func18, Try.ntmps18
  go_wp2_with (first
    | ((with_reducible refine Step.gate_box (t := 25) rfl ?_); refine Step.fresh (cs := hc h) (T := 25) rfl ?hr ?_; (case hr => first | (go_simp; done) | (go_simp; rfl)); intro g1 w1 b hg hb; have ST := Lib.hid (S1.made b hg hb); clear b hg hb)
    | ((with_reducible refine Step.gate_alloc (t := 25) rfl ?_); refine Step.freshAlloc rfl rfl (alloc_agg zero_hart) ?_; intro g2 w2 b hg hb; replace ST := Lib.hid (ST.out.more b hg hb); clear b hg hb)
    | ((with_reducible refine Step.gate_store (t := 22) rfl ?_); refine Step.store ST.out.one rfl rfl rfl rfl rfl pl_u64 rfl rfl ?_; intro w3 nb m; simp [go_sem, set_x0, set_pc, set_user, set_on, set_spie, set_spp, set_sum, set_mxr, set_rsv, set_stvec, set_sscr, set_sepc, set_scause, set_stval, set_sie, set_sip, set_satp, set_resv] at nb; replace ST := Lib.hid (ST.out.set1 nb m); clear nb m)
    | ((with_reducible refine Step.gate_store (t := 4) rfl ?_); refine Step.store ST.out.one rfl rfl rfl rfl rfl pl_bool rfl rfl ?_; intro w3 nb m; simp [go_sem, set_x0, set_pc, set_user, set_on, set_spie, set_spp, set_sum, set_mxr, set_rsv, set_stvec, set_sscr, set_sepc, set_scause, set_stval, set_sie, set_sip, set_satp, set_resv] at nb; replace ST := Lib.hid (ST.out.set1 nb m); clear nb m)
    | ((with_reducible refine Step.gate_load (t := 22) rfl ?_); refine Step.load ST.out.one rfl rfl rfl pl_u64 (hv_ok _ (by decide)) ?_; simp only [hv_x0, hv_pc, hv_user, hv_on, hv_spie, hv_spp, hv_sum, hv_mxr, hv_rsv, hv_stvec, hv_sscr, hv_sepc, hv_scause, hv_stval, hv_sie, hv_sip, hv_satp, hv_resv])
    | ((with_reducible refine Step.gate_load (t := 4) rfl ?_); refine Step.load ST.out.one rfl rfl rfl pl_bool (hv_ok _ (by decide)) ?_; simp only [hv_x0, hv_pc, hv_user, hv_on, hv_spie, hv_spp, hv_sum, hv_mxr, hv_rsv, hv_stvec, hv_sscr, hv_sepc, hv_scause, hv_stval, hv_sie, hv_sip, hv_satp, hv_resv])
    | ((with_reducible refine Step.gate_store (t := 25) rfl ?_); refine Step.storeAll ST.out.one rfl rfl rfl rfl rfl (size_hart _) rfl (hc_all _) ?_; intro w3 nb m; replace ST := Lib.hid (ST.out.set1 nb m); clear nb m)
    | ((with_reducible refine Step.gate_load (t := 25) rfl ?_); refine Step.loadAll ST.out.one rfl rfl rfl Try.underlying25 rfl (size_hart _) ?_)
    | ((with_reducible refine Step.gate_store (t := 22) rfl ?_); refine Step.store ST.out.two rfl rfl rfl rfl rfl pl_u64 rfl rfl ?_; intro w3 nb m; simp [go_sem, set_x0, set_pc, set_user, set_on, set_spie, set_spp, set_sum, set_mxr, set_rsv, set_stvec, set_sscr, set_sepc, set_scause, set_stval, set_sie, set_sip, set_satp, set_resv] at nb; replace ST := Lib.hid (ST.out.set2 nb m); clear nb m)
    | ((with_reducible refine Step.gate_store (t := 4) rfl ?_); refine Step.store ST.out.two rfl rfl rfl rfl rfl pl_bool rfl rfl ?_; intro w3 nb m; simp [go_sem, set_x0, set_pc, set_user, set_on, set_spie, set_spp, set_sum, set_mxr, set_rsv, set_stvec, set_sscr, set_sepc, set_scause, set_stval, set_sie, set_sip, set_satp, set_resv] at nb; replace ST := Lib.hid (ST.out.set2 nb m); clear nb m)
    | ((with_reducible refine Step.gate_load (t := 22) rfl ?_); refine Step.load ST.out.two rfl rfl rfl pl_u64 (hv_ok _ (by decide)) ?_; simp only [hv_x0, hv_pc, hv_user, hv_on, hv_spie, hv_spp, hv_sum, hv_mxr, hv_rsv, hv_stvec, hv_sscr, hv_sepc, hv_scause, hv_stval, hv_sie, hv_sip, hv_satp, hv_resv])
    | ((with_reducible refine Step.gate_load (t := 4) rfl ?_); refine Step.load ST.out.two rfl rfl rfl pl_bool (hv_ok _ (by decide)) ?_; simp only [hv_x0, hv_pc, hv_user, hv_on, hv_spie, hv_spp, hv_sum, hv_mxr, hv_rsv, hv_stvec, hv_sscr, hv_sepc, hv_scause, hv_stval, hv_sie, hv_sip, hv_satp, hv_resv])
    | ((with_reducible refine Step.gate_store (t := 25) rfl ?_); refine Step.storeAll ST.out.two rfl rfl rfl rfl rfl (size_hart _) rfl (hc_all _) ?_; intro w3 nb m; replace ST := Lib.hid (ST.out.set2 nb m); clear nb m)
    | ((with_reducible refine Step.gate_load (t := 25) rfl ?_); refine Step.loadAll ST.out.two rfl rfl rfl Try.underlying25 rfl (size_hart _) ?_))
  refine bodyPost_ret (results_row rfl _ _ g2 _ _ _ rfl ST.out.two Try.underlying25 rfl (size_hart _)) rfl ⟨rfl, ST.out.below⟩
set_option maxHeartbeats 2000000 in
theorem write_none (h : Hrt) (hf : Fit h) (v : Int) (w : World) : Calls Try.prog 23 #[.agg (hc h), .int .i64 0, .int .u64 v] w fun e w' => e = .returned (.tuple #[.agg (hc (ord h)), .bool false]) ∧ Below w.heap.size w w' := by
  have T0 := Lib.hid (order_any h hf)
  have hu : (ord h).user = h.user := rfl
  clear hf
  generalize ord h = h2 at *
  cases hus : h.user
  all_goals rw [hus] at hu
  all_goals clear hus
  all_goals (
    go_enter Try.func23, Try.ntmps23
    go_wp2_with (first
      | (go_at_call 34; (with_reducible refine (T0.out _).mono ?_); rintro e w' ⟨rfl, hb⟩; replace ST := Lib.hid (ST.out.call hb); clear hb)
      | ((with_reducible refine Step.gate_box (t := 25) rfl ?_); refine Step.fresh (cs := hc h) (T := 25) rfl ?hr ?_; (case hr => first | (go_simp; done) | (go_simp; rfl)); intro g1 w1 b hg hb; have ST := Lib.hid (S1.made b hg hb); clear b hg hb)
      | ((with_reducible refine Step.gate_alloc (t := 25) rfl ?_); refine Step.freshAlloc rfl rfl (alloc_agg zero_hart) ?_; intro g2 w2 b hg hb; replace ST := Lib.hid (ST.out.more b hg hb); clear b hg hb)
      | ((with_reducible refine Step.gate_store (t := 22) rfl ?_); refine Step.store ST.out.one rfl rfl rfl rfl rfl pl_u64 rfl rfl ?_; intro w3 nb m; simp [go_sem, set_x0, set_pc, set_user, set_on, set_spie, set_spp, set_sum, set_mxr, set_rsv, set_stvec, set_sscr, set_sepc, set_scause, set_stval, set_sie, set_sip, set_satp, set_resv] at nb; replace ST := Lib.hid (ST.out.set1 nb m); clear nb m)
      | ((with_reducible refine Step.gate_store (t := 4) rfl ?_); refine Step.store ST.out.one rfl rfl rfl rfl rfl pl_bool rfl rfl ?_; intro w3 nb m; simp [go_sem, set_x0, set_pc, set_user, set_on, set_spie, set_spp, set_sum, set_mxr, set_rsv, set_stvec, set_sscr, set_sepc, set_scause, set_stval, set_sie, set_sip, set_satp, set_resv] at nb; replace ST := Lib.hid (ST.out.set1 nb m); clear nb m)
      | ((with_reducible refine Step.gate_load (t := 22) rfl ?_); refine Step.load ST.out.one rfl rfl rfl pl_u64 (hv_ok _ (by decide)) ?_; simp only [hv_x0, hv_pc, hv_user, hv_on, hv_spie, hv_spp, hv_sum, hv_mxr, hv_rsv, hv_stvec, hv_sscr, hv_sepc, hv_scause, hv_stval, hv_sie, hv_sip, hv_satp, hv_resv])
      | ((with_reducible refine Step.gate_load (t := 4) rfl ?_); refine Step.load ST.out.one rfl rfl rfl pl_bool (hv_ok _ (by decide)) ?_; simp only [hv_x0, hv_pc, hv_user, hv_on, hv_spie, hv_spp, hv_sum, hv_mxr, hv_rsv, hv_stvec, hv_sscr, hv_sepc, hv_scause, hv_stval, hv_sie, hv_sip, hv_satp, hv_resv])
      | ((with_reducible refine Step.gate_store (t := 25) rfl ?_); refine Step.storeAll ST.out.one rfl rfl rfl rfl rfl (size_hart _) rfl (hc_all _) ?_; intro w3 nb m; replace ST := Lib.hid (ST.out.set1 nb m); clear nb m)
      | ((with_reducible refine Step.gate_load (t := 25) rfl ?_); refine Step.loadAll ST.out.one rfl rfl rfl Try.underlying25 rfl (size_hart _) ?_)
      | ((with_reducible refine Step.gate_store (t := 22) rfl ?_); refine Step.store ST.out.two rfl rfl rfl rfl rfl pl_u64 rfl rfl ?_; intro w3 nb m; simp [go_sem, set_x0, set_pc, set_user, set_on, set_spie, set_spp, set_sum, set_mxr, set_rsv, set_stvec, set_sscr, set_sepc, set_scause, set_stval, set_sie, set_sip, set_satp, set_resv] at nb; replace ST := Lib.hid (ST.out.set2 nb m); clear nb m)
      | ((with_reducible refine Step.gate_store (t := 4) rfl ?_); refine Step.store ST.out.two rfl rfl rfl rfl rfl pl_bool rfl rfl ?_; intro w3 nb m; simp [go_sem, set_x0, set_pc, set_user, set_on, set_spie, set_spp, set_sum, set_mxr, set_rsv, set_stvec, set_sscr, set_sepc, set_scause, set_stval, set_sie, set_sip, set_satp, set_resv] at nb; replace ST := Lib.hid (ST.out.set2 nb m); clear nb m)
      | ((with_reducible refine Step.gate_load (t := 22) rfl ?_); refine Step.load ST.out.two rfl rfl rfl pl_u64 (hv_ok _ (by decide)) ?_; simp only [hv_x0, hv_pc, hv_user, hv_on, hv_spie, hv_spp, hv_sum, hv_mxr, hv_rsv, hv_stvec, hv_sscr, hv_sepc, hv_scause, hv_stval, hv_sie, hv_sip, hv_satp, hv_resv])
      | ((with_reducible refine Step.gate_load (t := 4) rfl ?_); refine Step.load ST.out.two rfl rfl rfl pl_bool (hv_ok _ (by decide)) ?_; simp only [hv_x0, hv_pc, hv_user, hv_on, hv_spie, hv_spp, hv_sum, hv_mxr, hv_rsv, hv_stvec, hv_sscr, hv_sepc, hv_scause, hv_stval, hv_sie, hv_sip, hv_satp, hv_resv])
      | ((with_reducible refine Step.gate_store (t := 25) rfl ?_); refine Step.storeAll ST.out.two rfl rfl rfl rfl rfl (size_hart _) rfl (hc_all _) ?_; intro w3 nb m; replace ST := Lib.hid (ST.out.set2 nb m); clear nb m)
      | ((with_reducible refine Step.gate_load (t := 25) rfl ?_); refine Step.loadAll ST.out.two rfl rfl rfl Try.underlying25 rfl (size_hart _) ?_))
    all_goals refine bodyPost_ret (results_row_tmp rfl _ _ g2 _ _ _ rfl ST.out.two Try.underlying25 rfl (size_hart _)) rfl ⟨rfl, ST.out.below⟩)
end Go.Proofs.Ytecpkipgkaaefaa.Hart
end
section
namespace Go.Proofs.Ytecpkipgkaaefaa.Hart
open Go Go.RowKit Go.ChangeShapes Go.WideShapes Go.ChangeAt
set_option linter.unusedVariables false
set_option linter.unusedSimpArgs false
set_option maxRecDepth 100000
section
variable {H : Type} {enc : TypeId × Value → H} {W : World} {base : Nat} {sp : Nat → Bool} {held : Bool}
theorem co_u64 : Try.prog.cellsOf 22 = 1 := by kernel_rfl
theorem co_bool : Try.prog.cellsOf 4 = 1 := by kernel_rfl
theorem co_arr : Try.prog.cellsOf 23 = 32 := by kernel_rfl
theorem co_hart : Try.prog.cellsOf 25 = 49 := by kernel_rfl
theorem bd_u64 {v : Int} (h : (Lit.int .u64 v).wf = true) : U64 v := by have := bounds_u64 h; exact ⟨by omega, by omega⟩
set_option maxHeartbeats 8000000 in
theorem open_hart {r : Reach} {b0 : Nat} {v : Value} {d : DataW H} {ps : List MemPlace} (hval : Value.okWide Try.prog W r b0 25 v) (h : DataW.Trod enc Try.prog W base sp held 25 v d ps) :
    ∃ h : Hrt, v = .agg (hc h) ∧ Fit h := by
  simp only [Value.okWide, Try.underlying25] at hval
  obtain ⟨cs, rfl, hsz, _⟩ := hval
  rw [co_hart] at hsz
  obtain ⟨l⟩ := cs
  obtain ⟨fuel, hf⟩ := h
  match l, hsz with
  | a0 :: a1 :: a2 :: a3 :: a4 :: a5 :: a6 :: a7 :: a8 :: a9 :: a10 :: a11 :: a12 :: a13 :: a14 :: a15 :: a16 :: a17 :: a18 :: a19 :: a20 :: a21 :: a22 :: a23 :: a24 :: a25 :: a26 :: a27 :: a28 :: a29 :: a30 :: a31 :: a32 :: a33 :: a34 :: a35 :: a36 :: a37 :: a38 :: a39 :: a40 :: a41 :: a42 :: a43 :: a44 :: a45 :: a46 :: a47 :: a48 :: [], _ =>
    obtain ⟨xs, n, _, _, _, hxl, hfl⟩ := DataW.trod_struct Try.underlying25 hf
    match xs, hxl with
    | [y0, y1, y2, y3, y4, y5, y6, y7, y8, y9, y10, y11, y12, y13, y14, y15, y16, y17], _ =>
      have gA : DataW.trod enc Try.prog W base sp held n 23 [a0, a1, a2, a3, a4, a5, a6, a7, a8, a9, a10, a11, a12, a13, a14, a15, a16, a17, a18, a19, a20, a21, a22, a23, a24, a25, a26, a27, a28, a29, a30, a31] = some y0 := by simpa [co_arr, co_u64, co_bool, Value.cells] using hfl 0 _ rfl
      obtain ⟨xs2, m, _, _, _, hx2, hal⟩ := DataW.trod_array Try.underlying23 gA
      match xs2, hx2 with
      | z0 :: z1 :: z2 :: z3 :: z4 :: z5 :: z6 :: z7 :: z8 :: z9 :: z10 :: z11 :: z12 :: z13 :: z14 :: z15 :: z16 :: z17 :: z18 :: z19 :: z20 :: z21 :: z22 :: z23 :: z24 :: z25 :: z26 :: z27 :: z28 :: z29 :: z30 :: z31 :: [], _ =>
        have g0 : DataW.trod enc Try.prog W base sp held m 22 [a0] = some z0 := by simpa [co_u64] using hal 0 (by decide)
        have g1 : DataW.trod enc Try.prog W base sp held m 22 [a1] = some z1 := by simpa [co_u64] using hal 1 (by decide)
        have g2 : DataW.trod enc Try.prog W base sp held m 22 [a2] = some z2 := by simpa [co_u64] using hal 2 (by decide)
        have g3 : DataW.trod enc Try.prog W base sp held m 22 [a3] = some z3 := by simpa [co_u64] using hal 3 (by decide)
        have g4 : DataW.trod enc Try.prog W base sp held m 22 [a4] = some z4 := by simpa [co_u64] using hal 4 (by decide)
        have g5 : DataW.trod enc Try.prog W base sp held m 22 [a5] = some z5 := by simpa [co_u64] using hal 5 (by decide)
        have g6 : DataW.trod enc Try.prog W base sp held m 22 [a6] = some z6 := by simpa [co_u64] using hal 6 (by decide)
        have g7 : DataW.trod enc Try.prog W base sp held m 22 [a7] = some z7 := by simpa [co_u64] using hal 7 (by decide)
        have g8 : DataW.trod enc Try.prog W base sp held m 22 [a8] = some z8 := by simpa [co_u64] using hal 8 (by decide)
        have g9 : DataW.trod enc Try.prog W base sp held m 22 [a9] = some z9 := by simpa [co_u64] using hal 9 (by decide)
        have g10 : DataW.trod enc Try.prog W base sp held m 22 [a10] = some z10 := by simpa [co_u64] using hal 10 (by decide)
        have g11 : DataW.trod enc Try.prog W base sp held m 22 [a11] = some z11 := by simpa [co_u64] using hal 11 (by decide)
        have g12 : DataW.trod enc Try.prog W base sp held m 22 [a12] = some z12 := by simpa [co_u64] using hal 12 (by decide)
        have g13 : DataW.trod enc Try.prog W base sp held m 22 [a13] = some z13 := by simpa [co_u64] using hal 13 (by decide)
        have g14 : DataW.trod enc Try.prog W base sp held m 22 [a14] = some z14 := by simpa [co_u64] using hal 14 (by decide)
        have g15 : DataW.trod enc Try.prog W base sp held m 22 [a15] = some z15 := by simpa [co_u64] using hal 15 (by decide)
        have g16 : DataW.trod enc Try.prog W base sp held m 22 [a16] = some z16 := by simpa [co_u64] using hal 16 (by decide)
        have g17 : DataW.trod enc Try.prog W base sp held m 22 [a17] = some z17 := by simpa [co_u64] using hal 17 (by decide)
        have g18 : DataW.trod enc Try.prog W base sp held m 22 [a18] = some z18 := by simpa [co_u64] using hal 18 (by decide)
        have g19 : DataW.trod enc Try.prog W base sp held m 22 [a19] = some z19 := by simpa [co_u64] using hal 19 (by decide)
        have g20 : DataW.trod enc Try.prog W base sp held m 22 [a20] = some z20 := by simpa [co_u64] using hal 20 (by decide)
        have g21 : DataW.trod enc Try.prog W base sp held m 22 [a21] = some z21 := by simpa [co_u64] using hal 21 (by decide)
        have g22 : DataW.trod enc Try.prog W base sp held m 22 [a22] = some z22 := by simpa [co_u64] using hal 22 (by decide)
        have g23 : DataW.trod enc Try.prog W base sp held m 22 [a23] = some z23 := by simpa [co_u64] using hal 23 (by decide)
        have g24 : DataW.trod enc Try.prog W base sp held m 22 [a24] = some z24 := by simpa [co_u64] using hal 24 (by decide)
        have g25 : DataW.trod enc Try.prog W base sp held m 22 [a25] = some z25 := by simpa [co_u64] using hal 25 (by decide)
        have g26 : DataW.trod enc Try.prog W base sp held m 22 [a26] = some z26 := by simpa [co_u64] using hal 26 (by decide)
        have g27 : DataW.trod enc Try.prog W base sp held m 22 [a27] = some z27 := by simpa [co_u64] using hal 27 (by decide)
        have g28 : DataW.trod enc Try.prog W base sp held m 22 [a28] = some z28 := by simpa [co_u64] using hal 28 (by decide)
        have g29 : DataW.trod enc Try.prog W base sp held m 22 [a29] = some z29 := by simpa [co_u64] using hal 29 (by decide)
        have g30 : DataW.trod enc Try.prog W base sp held m 22 [a30] = some z30 := by simpa [co_u64] using hal 30 (by decide)
        have g31 : DataW.trod enc Try.prog W base sp held m 22 [a31] = some z31 := by simpa [co_u64] using hal 31 (by decide)
        have g32 : DataW.trod enc Try.prog W base sp held n 22 [a32] = some y1 := by simpa [co_u64, co_bool, Value.cells] using hfl 1 _ rfl
        have g33 : DataW.trod enc Try.prog W base sp held n 4 [a33] = some y2 := by simpa [co_u64, co_bool, Value.cells] using hfl 2 _ rfl
        have g34 : DataW.trod enc Try.prog W base sp held n 4 [a34] = some y3 := by simpa [co_u64, co_bool, Value.cells] using hfl 3 _ rfl
        have g35 : DataW.trod enc Try.prog W base sp held n 4 [a35] = some y4 := by simpa [co_u64, co_bool, Value.cells] using hfl 4 _ rfl
        have g36 : DataW.trod enc Try.prog W base sp held n 4 [a36] = some y5 := by simpa [co_u64, co_bool, Value.cells] using hfl 5 _ rfl
        have g37 : DataW.trod enc Try.prog W base sp held n 4 [a37] = some y6 := by simpa [co_u64, co_bool, Value.cells] using hfl 6 _ rfl
        have g38 : DataW.trod enc Try.prog W base sp held n 4 [a38] = some y7 := by simpa [co_u64, co_bool, Value.cells] using hfl 7 _ rfl
        have g39 : DataW.trod enc Try.prog W base sp held n 4 [a39] = some y8 := by simpa [co_u64, co_bool, Value.cells] using hfl 8 _ rfl
        have g40 : DataW.trod enc Try.prog W base sp held n 22 [a40] = some y9 := by simpa [co_u64, co_bool, Value.cells] using hfl 9 _ rfl
        have g41 : DataW.trod enc Try.prog W base sp held n 22 [a41] = some y10 := by simpa [co_u64, co_bool, Value.cells] using hfl 10 _ rfl
        have g42 : DataW.trod enc Try.prog W base sp held n 22 [a42] = some y11 := by simpa [co_u64, co_bool, Value.cells] using hfl 11 _ rfl
        have g43 : DataW.trod enc Try.prog W base sp held n 22 [a43] = some y12 := by simpa [co_u64, co_bool, Value.cells] using hfl 12 _ rfl
        have g44 : DataW.trod enc Try.prog W base sp held n 22 [a44] = some y13 := by simpa [co_u64, co_bool, Value.cells] using hfl 13 _ rfl
        have g45 : DataW.trod enc Try.prog W base sp held n 22 [a45] = some y14 := by simpa [co_u64, co_bool, Value.cells] using hfl 14 _ rfl
        have g46 : DataW.trod enc Try.prog W base sp held n 22 [a46] = some y15 := by simpa [co_u64, co_bool, Value.cells] using hfl 15 _ rfl
        have g47 : DataW.trod enc Try.prog W base sp held n 22 [a47] = some y16 := by simpa [co_u64, co_bool, Value.cells] using hfl 16 _ rfl
        have g48 : DataW.trod enc Try.prog W base sp held n 22 [a48] = some y17 := by simpa [co_u64, co_bool, Value.cells] using hfl 17 _ rfl
        obtain ⟨n0, e0, _, w0⟩ := DataW.trod_int Try.underlying22 g0
        obtain ⟨n1, e1, _, w1⟩ := DataW.trod_int Try.underlying22 g1
        obtain ⟨n2, e2, _, w2⟩ := DataW.trod_int Try.underlying22 g2
        obtain ⟨n3, e3, _, w3⟩ := DataW.trod_int Try.underlying22 g3
        obtain ⟨n4, e4, _, w4⟩ := DataW.trod_int Try.underlying22 g4
        obtain ⟨n5, e5, _, w5⟩ := DataW.trod_int Try.underlying22 g5
        obtain ⟨n6, e6, _, w6⟩ := DataW.trod_int Try.underlying22 g6
        obtain ⟨n7, e7, _, w7⟩ := DataW.trod_int Try.underlying22 g7
        obtain ⟨n8, e8, _, w8⟩ := DataW.trod_int Try.underlying22 g8
        obtain ⟨n9, e9, _, w9⟩ := DataW.trod_int Try.underlying22 g9
        obtain ⟨n10, e10, _, w10⟩ := DataW.trod_int Try.underlying22 g10
        obtain ⟨n11, e11, _, w11⟩ := DataW.trod_int Try.underlying22 g11
        obtain ⟨n12, e12, _, w12⟩ := DataW.trod_int Try.underlying22 g12
        obtain ⟨n13, e13, _, w13⟩ := DataW.trod_int Try.underlying22 g13
        obtain ⟨n14, e14, _, w14⟩ := DataW.trod_int Try.underlying22 g14
        obtain ⟨n15, e15, _, w15⟩ := DataW.trod_int Try.underlying22 g15
        obtain ⟨n16, e16, _, w16⟩ := DataW.trod_int Try.underlying22 g16
        obtain ⟨n17, e17, _, w17⟩ := DataW.trod_int Try.underlying22 g17
        obtain ⟨n18, e18, _, w18⟩ := DataW.trod_int Try.underlying22 g18
        obtain ⟨n19, e19, _, w19⟩ := DataW.trod_int Try.underlying22 g19
        obtain ⟨n20, e20, _, w20⟩ := DataW.trod_int Try.underlying22 g20
        obtain ⟨n21, e21, _, w21⟩ := DataW.trod_int Try.underlying22 g21
        obtain ⟨n22, e22, _, w22⟩ := DataW.trod_int Try.underlying22 g22
        obtain ⟨n23, e23, _, w23⟩ := DataW.trod_int Try.underlying22 g23
        obtain ⟨n24, e24, _, w24⟩ := DataW.trod_int Try.underlying22 g24
        obtain ⟨n25, e25, _, w25⟩ := DataW.trod_int Try.underlying22 g25
        obtain ⟨n26, e26, _, w26⟩ := DataW.trod_int Try.underlying22 g26
        obtain ⟨n27, e27, _, w27⟩ := DataW.trod_int Try.underlying22 g27
        obtain ⟨n28, e28, _, w28⟩ := DataW.trod_int Try.underlying22 g28
        obtain ⟨n29, e29, _, w29⟩ := DataW.trod_int Try.underlying22 g29
        obtain ⟨n30, e30, _, w30⟩ := DataW.trod_int Try.underlying22 g30
        obtain ⟨n31, e31, _, w31⟩ := DataW.trod_int Try.underlying22 g31
        obtain ⟨n32, e32, _, w32⟩ := DataW.trod_int Try.underlying22 g32
        obtain ⟨n33, e33, _⟩ := DataW.trod_bool Try.underlying4 g33
        obtain ⟨n34, e34, _⟩ := DataW.trod_bool Try.underlying4 g34
        obtain ⟨n35, e35, _⟩ := DataW.trod_bool Try.underlying4 g35
        obtain ⟨n36, e36, _⟩ := DataW.trod_bool Try.underlying4 g36
        obtain ⟨n37, e37, _⟩ := DataW.trod_bool Try.underlying4 g37
        obtain ⟨n38, e38, _⟩ := DataW.trod_bool Try.underlying4 g38
        obtain ⟨n39, e39, _⟩ := DataW.trod_bool Try.underlying4 g39
        obtain ⟨n40, e40, _, w40⟩ := DataW.trod_int Try.underlying22 g40
        obtain ⟨n41, e41, _, w41⟩ := DataW.trod_int Try.underlying22 g41
        obtain ⟨n42, e42, _, w42⟩ := DataW.trod_int Try.underlying22 g42
        obtain ⟨n43, e43, _, w43⟩ := DataW.trod_int Try.underlying22 g43
        obtain ⟨n44, e44, _, w44⟩ := DataW.trod_int Try.underlying22 g44
        obtain ⟨n45, e45, _, w45⟩ := DataW.trod_int Try.underlying22 g45
        obtain ⟨n46, e46, _, w46⟩ := DataW.trod_int Try.underlying22 g46
        obtain ⟨n47, e47, _, w47⟩ := DataW.trod_int Try.underlying22 g47
        obtain ⟨n48, e48, _, w48⟩ := DataW.trod_int Try.underlying22 g48
        simp only [List.cons.injEq, and_true] at e0 e1 e2 e3 e4 e5 e6 e7 e8 e9 e10 e11 e12 e13 e14 e15 e16 e17 e18 e19 e20 e21 e22 e23 e24 e25 e26 e27 e28 e29 e30 e31 e32 e33 e34 e35 e36 e37 e38 e39 e40 e41 e42 e43 e44 e45 e46 e47 e48
        subst e0 e1 e2 e3 e4 e5 e6 e7 e8 e9 e10 e11 e12 e13 e14 e15 e16 e17 e18 e19 e20 e21 e22 e23 e24 e25 e26 e27 e28 e29 e30 e31 e32 e33 e34 e35 e36 e37 e38 e39 e40 e41 e42 e43 e44 e45 e46 e47 e48
        refine ⟨{ x := fun k => match k with | 0 => n0 | 1 => n1 | 2 => n2 | 3 => n3 | 4 => n4 | 5 => n5 | 6 => n6 | 7 => n7 | 8 => n8 | 9 => n9 | 10 => n10 | 11 => n11 | 12 => n12 | 13 => n13 | 14 => n14 | 15 => n15 | 16 => n16 | 17 => n17 | 18 => n18 | 19 => n19 | 20 => n20 | 21 => n21 | 22 => n22 | 23 => n23 | 24 => n24 | 25 => n25 | 26 => n26 | 27 => n27 | 28 => n28 | 29 => n29 | 30 => n30 | 31 => n31 | _ => 0, pc := n32, user := n33, on := n34, spie := n35, spp := n36, sum := n37, mxr := n38, rsv := n39, stvec := n40, sscr := n41, sepc := n42, scause := n43, stval := n44, sie := n45, sip := n46, satp := n47, resv := n48 }, rfl, fun i hi => ?_, bd_u64 w32, bd_u64 w40, bd_u64 w41, bd_u64 w42, bd_u64 w43, bd_u64 w44, bd_u64 w45, bd_u64 w46, bd_u64 w47, bd_u64 w48⟩
        obtain h1 | h1 | h1 | h1 | h1 | h1 | h1 | h1 | h1 | h1 | h1 | h1 | h1 | h1 | h1 | h1 | h1 | h1 | h1 | h1 | h1 | h1 | h1 | h1 | h1 | h1 | h1 | h1 | h1 | h1 | h1 | h1 : i = 0 ∨ i = 1 ∨ i = 2 ∨ i = 3 ∨ i = 4 ∨ i = 5 ∨ i = 6 ∨ i = 7 ∨ i = 8 ∨ i = 9 ∨ i = 10 ∨ i = 11 ∨ i = 12 ∨ i = 13 ∨ i = 14 ∨ i = 15 ∨ i = 16 ∨ i = 17 ∨ i = 18 ∨ i = 19 ∨ i = 20 ∨ i = 21 ∨ i = 22 ∨ i = 23 ∨ i = 24 ∨ i = 25 ∨ i = 26 ∨ i = 27 ∨ i = 28 ∨ i = 29 ∨ i = 30 ∨ i = 31 := by omega
        · subst h1; exact bd_u64 w0
        · subst h1; exact bd_u64 w1
        · subst h1; exact bd_u64 w2
        · subst h1; exact bd_u64 w3
        · subst h1; exact bd_u64 w4
        · subst h1; exact bd_u64 w5
        · subst h1; exact bd_u64 w6
        · subst h1; exact bd_u64 w7
        · subst h1; exact bd_u64 w8
        · subst h1; exact bd_u64 w9
        · subst h1; exact bd_u64 w10
        · subst h1; exact bd_u64 w11
        · subst h1; exact bd_u64 w12
        · subst h1; exact bd_u64 w13
        · subst h1; exact bd_u64 w14
        · subst h1; exact bd_u64 w15
        · subst h1; exact bd_u64 w16
        · subst h1; exact bd_u64 w17
        · subst h1; exact bd_u64 w18
        · subst h1; exact bd_u64 w19
        · subst h1; exact bd_u64 w20
        · subst h1; exact bd_u64 w21
        · subst h1; exact bd_u64 w22
        · subst h1; exact bd_u64 w23
        · subst h1; exact bd_u64 w24
        · subst h1; exact bd_u64 w25
        · subst h1; exact bd_u64 w26
        · subst h1; exact bd_u64 w27
        · subst h1; exact bd_u64 w28
        · subst h1; exact bd_u64 w29
        · subst h1; exact bd_u64 w30
        · subst h1; exact bd_u64 w31
end
end Go.Proofs.Ytecpkipgkaaefaa.Hart
end
section
namespace Go.Proofs.Ytecpkipgkaaefaa.Kn
open Go Go.RowKit Go.Proofs.Ytecpkipgkaaefaa.Step
set_option linter.unusedVariables false
set_option linter.unusedSimpArgs false
/-- From W to w only what S names was turned; the listed blocks are as they say, each of them new or named by S. -/
structure Kn (S : Nat → Prop) (W w : World) (L : List (Nat × Array Value × TypeId)) : Prop where
  mod : Mod S W w
  blk : ∀ p ∈ L, Blk w p.1 p.2.1 p.2.2
  own : ∀ p ∈ L, p.1 < W.heap.size → S p.1
  nod : L.Pairwise fun p q => p.1 ≠ q.1
section
variable {S : Nat → Prop} {W w w' : World} {L : List (Nat × Array Value × TypeId)} {g : Nat} {c c' : Array Value} {T T' : TypeId}
theorem Kn.nil : Kn S W W [] := ⟨Mod.refl _ _, (fun _ h => nomatch h), (fun _ h => nomatch h), List.Pairwise.nil⟩
theorem Kn.old (k : Kn S W w L) (b : Blk w g c T) (h : S g) (hn : ∀ p ∈ L, p.1 ≠ g) : Kn S W w ((g, c, T) :: L) :=
  ⟨k.mod, fun p hp => (by rcases List.mem_cons.1 hp with rfl | hp; exact b; exact k.blk p hp), fun p hp hl => (by rcases List.mem_cons.1 hp with rfl | hp; exact h; exact k.own p hp hl), List.Pairwise.cons (fun p hp e => hn p hp e.symm) k.nod⟩
theorem Kn.call (k : Kn S W w L) (hb : Below w.heap.size w w') : Kn S W w' L :=
  ⟨k.mod.trans (Mod.of_below hb _), fun p hp => (k.blk p hp).below hb, k.own, k.nod⟩
theorem Kn.drew (k : Kn S W w L) : Kn S W { w with drawn := w.drawn + 1 } L := k.call ⟨rfl, rfl, rfl, Nat.le_refl _, fun _ _ => rfl⟩
theorem Kn.made (k : Kn S W w L) (b : Blk w' g c T) (hg : w.heap.size ≤ g) (hb : Below w.heap.size w w') : Kn S W w' ((g, c, T) :: L) :=
  ⟨(k.call hb).mod, fun p hp => (by rcases List.mem_cons.1 hp with rfl | hp; exact b; exact (k.call hb).blk p hp), fun p hp hl => (by
    rcases List.mem_cons.1 hp with rfl | hp
    · have := k.mod.size; exact absurd hl (by show ¬ g < _; omega)
    · exact k.own p hp hl), List.Pairwise.cons (fun p hp e => by have := (k.blk p hp).lt; have e' : g = p.1 := e; omega) k.nod⟩
/-- A call turned what is not listed. -/
theorem Kn.turn {R : Nat → Prop} (k : Kn S W w L) (m : Mod R w w') (h1 : ∀ p ∈ L, ¬ R p.1) (h2 : ∀ i, i < W.heap.size → R i → S i) : Kn S W w' L :=
  ⟨k.mod.trans_new m h2, fun p hp => (k.blk p hp).mod m (h1 p hp), k.own, k.nod⟩
theorem Kn.set_at {A B : List (Nat × Array Value × TypeId)} (k : Kn S W w (A ++ (g, c, T) :: B)) (nb : Blk w' g c' T') (m : Mod (One g) w w') : Kn S W w' (A ++ (g, c', T') :: B) := by
  have hp := List.pairwise_append.1 k.nod
  have hB := List.pairwise_cons.1 hp.2.1
  have hmem : (g, c, T) ∈ A ++ (g, c, T) :: B := List.mem_append_right _ (List.mem_cons_self ..)
  refine ⟨k.mod.trans_new m fun i hi e => by obtain rfl := e; exact k.own _ hmem hi, fun p hq => ?_, fun p hq hl => ?_, ?_⟩
  · rcases List.mem_append.1 hq with h | h
    · exact (k.blk p (List.mem_append_left _ h)).mod m fun e => hp.2.2 p h (g, c, T) (List.mem_cons_self ..) e
    · rcases List.mem_cons.1 h with rfl | h
      · exact nb
      · exact (k.blk p (List.mem_append_right _ (List.mem_cons_of_mem _ h))).mod m fun e => hB.1 p h (e : p.1 = g).symm
  · rcases List.mem_append.1 hq with h | h
    · exact k.own p (List.mem_append_left _ h) hl
    · rcases List.mem_cons.1 h with rfl | h
      · exact k.own (g, c, T) hmem hl
      · exact k.own p (List.mem_append_right _ (List.mem_cons_of_mem _ h)) hl
  · refine List.pairwise_append.2 ⟨hp.1, List.pairwise_cons.2 ⟨hB.1, hB.2⟩, fun a ha b hb => ?_⟩
    rcases List.mem_cons.1 hb with rfl | hb
    · exact hp.2.2 a ha (g, c, T) (List.mem_cons_self ..)
    · exact hp.2.2 a ha b (List.mem_cons_of_mem _ hb)
theorem Kn.drop {p : Nat × Array Value × TypeId} (k : Kn S W w (p :: L)) : Kn S W w L := ⟨k.mod, fun q h => k.blk q (List.mem_cons_of_mem _ h), fun q h => k.own q (List.mem_cons_of_mem _ h), (List.pairwise_cons.1 k.nod).2⟩
theorem Kn.below (k : Kn Nil W w L) : Below W.heap.size W w := k.mod.below
end
section
variable {S : Nat → Prop} {W w w' : World} {L : List (Nat × Array Value × TypeId)} {g : Nat} {c c' : Array Value} {T T' : TypeId}
theorem Kn.at0 (k : Kn S W w ((g, c, T) :: L)) : Blk w g c T := k.blk (g, c, T) (List.mem_cons_self ..)
theorem Kn.set0 (k : Kn S W w ((g, c, T) :: L)) (nb : Blk w' g c' T') (m : Mod (One g) w w') : Kn S W w' ((g, c', T') :: L) := Kn.set_at (A := []) k nb m
theorem Kn.at1 {p0 : Nat × Array Value × TypeId} (k : Kn S W w (p0 :: (g, c, T) :: L)) : Blk w g c T := k.blk (g, c, T) (List.mem_cons_of_mem _ (List.mem_cons_self ..))
theorem Kn.set1 {p0 : Nat × Array Value × TypeId} (k : Kn S W w (p0 :: (g, c, T) :: L)) (nb : Blk w' g c' T') (m : Mod (One g) w w') : Kn S W w' (p0 :: (g, c', T') :: L) := Kn.set_at (A := [p0]) k nb m
theorem Kn.at2 {p0 p1 : Nat × Array Value × TypeId} (k : Kn S W w (p0 :: p1 :: (g, c, T) :: L)) : Blk w g c T := k.blk (g, c, T) (List.mem_cons_of_mem _ (List.mem_cons_of_mem _ (List.mem_cons_self ..)))
theorem Kn.set2 {p0 p1 : Nat × Array Value × TypeId} (k : Kn S W w (p0 :: p1 :: (g, c, T) :: L)) (nb : Blk w' g c' T') (m : Mod (One g) w w') : Kn S W w' (p0 :: p1 :: (g, c', T') :: L) := Kn.set_at (A := [p0, p1]) k nb m
theorem Kn.at3 {p0 p1 p2 : Nat × Array Value × TypeId} (k : Kn S W w (p0 :: p1 :: p2 :: (g, c, T) :: L)) : Blk w g c T := k.blk (g, c, T) (List.mem_cons_of_mem _ (List.mem_cons_of_mem _ (List.mem_cons_of_mem _ (List.mem_cons_self ..))))
end
end Go.Proofs.Ytecpkipgkaaefaa.Kn
end
section
namespace Go.Proofs.Ytecpkipgkaaefaa.Step
open Go Go.RowKit
set_option linter.unusedVariables false
set_option linter.unusedSimpArgs false
section
variable {P : Program} {ops : Array Oper} {rest : List Oper} {o : Oper} {a : Act} {W : World} {Q : Exit → Act → World → Prop}
/-- A row within the block. -/
def Row (cs : Array Value) (k : Nat) (ds : Array Value) : Prop := ∀ j v, ds.toList[j]? = some v → cs[k + j]? = some v
end
end Go.Proofs.Ytecpkipgkaaefaa.Step
namespace Go.Proofs.Ytecpkipgkaaefaa.Step
open Go Go.RowKit
set_option linter.unusedVariables false
set_option linter.unusedSimpArgs false
section
variable {P : Program} {ops : Array Oper} {rest : List Oper} {o : Oper} {a : Act} {W : World} {Q : Exit → Act → World → Prop}
/-- A cell is read, where the guard lets it. -/
theorem loadG {t : TypeId} {x : Operand} {g i : Nat} {cs : Array Value} {T : TypeId} {v : Value} (hB : Blk W g cs T) (hw : Region.wanted o (yielded ops a.tmps) = true) (ho : o.op = .load t x) (hx : a.eval x = .pointer (some ⟨g, i, none⟩)) (ht : plainT P t = true) (hv : cs[i]? = some v)
    (h : wpList P ops Q rest (a.put o.dst v) W) : wpList P ops Q (o :: rest) a W := by
  unfold wpList
  rw [if_pos hw]
  refine .inl ?_
  have := run_load1 (P := P) ht ((hB.cell i).trans hv)
  unfold Oper.wp
  simp [execOp, ho, hx, this, Result.andThen]
  exact h
end
end Go.Proofs.Ytecpkipgkaaefaa.Step
end
