/- Parts of the walks and laws for the claim: McB, Tab, McC, DecA, Drawn; no conditions beyond the theorems' own. -/
import Derived.Test.YthkodjkkcgdmfaaGreatV2
import Derived.Test.YthkodjkkcgdmfaaGreatV8
section
namespace Go.Proofs.YthkodjkkcgdmfaaGreat.Hart
open Go Go.RowKit Go.Proofs.YthkodjkkcgdmfaaGreat.Step Go.Proofs.YthkodjkkcgdmfaaGreat.Enc Go.Proofs.YthkodjkkcgdmfaaGreat.Kn
open Go.Proofs.YthkodjkkcgdmfaaGreat.Mem (Ram Grow hasB wholeB num wr)
set_option linter.unusedVariables false
set_option linter.unusedSimpArgs false
set_option maxRecDepth 100000
/-- What a part of a step leaves: the step, the memory; what else stood is as it was. -/
def Out (W w' : World) (gs : Nat) (s' : Stp) (gm : Nat) (tv : Value) (root vmid : Int) (km : Value) (base : Int) (n : Nat) (mem' : Nat → Int) (F G : Nat → Prop) (T : World → Prop) : Prop :=
  ∃ F', Sy w' gs s' gm tv root vmid km base n mem' F' G T ∧ Mod (fun k => k = gs ∨ F k) W w' ∧ ∀ k, F' k → F k ∨ W.heap.size ≤ k
section
variable {W w w' : World} {gs gm n : Nat} {s s' : Stp} {tv km : Value} {root vmid base : Int} {mem mem' : Nat → Int} {F G : Nat → Prop} {T : World → Prop}
theorem Sy.out (h : Sy W gs s gm tv root vmid km base n mem F G T) : Out W W gs s gm tv root vmid km base n mem F G T := ⟨F, h, Mod.refl _ _, fun k h => .inl h⟩
theorem Out.set (h : Out W w gs s gm tv root vmid km base n mem F G T) (nb : Blk w' gs (sc s') TS) (m : Mod (One gs) w w') (hg : s'.gc = s.gc) : Out W w' gs s' gm tv root vmid km base n mem F G T := by
  obtain ⟨F', a, b, c⟩ := h
  exact ⟨F', a.set nb m hg, b.trans_new m fun k _ e => .inl e, c⟩
theorem Out.below (h : Out W w gs s gm tv root vmid km base n mem F G T) (b : Below w.heap.size w w') : Out W w' gs s gm tv root vmid km base n mem F G T := by
  obtain ⟨F', a, m, c⟩ := h
  exact ⟨F', a.below b, m.trans (Mod.of_below b _), c⟩
theorem Out.ahead (h : Out w w' gs s gm tv root vmid km base n mem F G T) (b : Below W.heap.size W w) : Out W w' gs s gm tv root vmid km base n mem F G T := by
  obtain ⟨F', a, m, c⟩ := h
  exact ⟨F', a, (Mod.of_below b _).trans m, fun k hk => (c k hk).imp id fun h => Nat.le_trans b.size h⟩
theorem Out.after (h : Out w w' gs s' gm tv root vmid km base n mem' F G T) (h0 : Sy W gs s gm tv root vmid km base n mem F G T) (nb : Mod (One gs) W w) : Out W w' gs s' gm tv root vmid km base n mem' F G T := by
  obtain ⟨F', a, m, c⟩ := h
  exact ⟨F', a, (nb.mono fun k _ e => .inl e).trans m, fun k hk => (c k hk).imp id fun h => Nat.le_trans nb.size h⟩
end
theorem read_zz {W : World} {h n : Nat} {base : Int} {mem : Nat → Int} {F : Nat → Prop} (r : Ram W h base n mem F) (addr z : Int) (k : Nat) (hz : z = k) (ha : 0 ≤ addr ∧ addr < 18446744073709551616) (h1 : wholeB k = true) (h2 : hasB base n addr k = true) :
    Calls Tryz.prog 132 #[.pointer (some ⟨h, 0, none⟩), .int .u64 addr, .int .i64 z] W fun e W' => e = .returned (.tuple #[.int .u64 (num mem (addr - base).toNat k), .bool true]) ∧ ∃ k, W' = W.drewN k := by
  subst hz; exact Mem.read_yes r addr k ha h1 h2
set_option maxHeartbeats 4000000 in
theorem load_yes {W : World} {gs gm n : Nat} {s : Stp} {tv km : Value} {vmid base : Int} {mem : Nat → Int} {F G : Nat → Prop} {T : World → Prop} (h : Sy W gs s gm tv 0 vmid km base n mem F G T) (hs : s.was.satp / 1152921504606846976 = 0) (hs0 : U64 s.was.satp) {va z : Int} {k : Nat} (hz : z = k) (hva : U64 va) (hw : wholeB k = true) (hh : hasB base n va k = true) (a : Int) : Calls Tryz.prog 107 #[.pointer (some ⟨gs, 0, none⟩), .int .u64 va, .int .i64 z, .int .i64 a] W fun e w' => e = .returned (.tuple #[.int .u64 (num mem (va - base).toNat k), .bool true]) ∧ Below W.heap.size W w' := by
  have TR := Lib.hid (fun (W' : World) (b : Below W.heap.size W W') => reach_true (h.below b).step (h.below b).mc.core (h.below b).ne (h.below b).mc.ram (h.below b).nF hs hs0 hva (size := z) (by have := of_decide_eq_true hw; omega) (by rw [hz]; exact hh) a)
  have TD := Lib.hid (fun (W' : World) (b : Below W.heap.size W W') => read_zz (h.below b).mc.ram va z k hz hva.out hw hh)
  have HY := Lib.hid h
  have HB := Lib.hid (Below.refl _ _ : Below W.heap.size W W)
  clear h hs hs0 hz hva hw hh
  go_enter Tryz.func107, Tryz.ntmps107
  go_wp2_with (first
    | ((with_reducible refine Step.gate_load (t := 22) rfl ?_); refine Step.load (HY.out.below HB.out).step rfl rfl rfl pl_u64 (sv_ok _ (by decide)) ?_; simp only [sv_dry, sv_now, sv_k, sv_fn, sv_rd, sv_rs1, sv_rs2, sv_imm, sv_sz, sv_sg, sv_long, sv_bits, sv_ek, sv_ea, sv_eva, sv_egpa, sv_ewalk, sv_ewrote, sv_was_pc, sv_was_user, sv_was_on, sv_was_spie, sv_was_spp, sv_was_sum, sv_was_mxr, sv_was_rsv, sv_was_stvec, sv_was_sscr, sv_was_sepc, sv_was_scause, sv_was_stval, sv_was_sie, sv_was_sip, sv_was_satp, sv_was_resv, sv_h_pc, sv_h_user, sv_h_on, sv_h_spie, sv_h_spp, sv_h_sum, sv_h_mxr, sv_h_rsv, sv_h_stvec, sv_h_sscr, sv_h_sepc, sv_h_scause, sv_h_stval, sv_h_sie, sv_h_sip, sv_h_satp, sv_h_resv, sv_c])
    | ((with_reducible refine Step.gate_load (t := 3) rfl ?_); refine Step.load (HY.out.below HB.out).step rfl rfl rfl pl_int (sv_ok _ (by decide)) ?_; simp only [sv_dry, sv_now, sv_k, sv_fn, sv_rd, sv_rs1, sv_rs2, sv_imm, sv_sz, sv_sg, sv_long, sv_bits, sv_ek, sv_ea, sv_eva, sv_egpa, sv_ewalk, sv_ewrote, sv_was_pc, sv_was_user, sv_was_on, sv_was_spie, sv_was_spp, sv_was_sum, sv_was_mxr, sv_was_rsv, sv_was_stvec, sv_was_sscr, sv_was_sepc, sv_was_scause, sv_was_stval, sv_was_sie, sv_was_sip, sv_was_satp, sv_was_resv, sv_h_pc, sv_h_user, sv_h_on, sv_h_spie, sv_h_spp, sv_h_sum, sv_h_mxr, sv_h_rsv, sv_h_stvec, sv_h_sscr, sv_h_sepc, sv_h_scause, sv_h_stval, sv_h_sie, sv_h_sip, sv_h_satp, sv_h_resv, sv_c])
    | ((with_reducible refine Step.gate_load (t := 4) rfl ?_); refine Step.load (HY.out.below HB.out).step rfl rfl rfl pl_bool (sv_ok _ (by decide)) ?_; simp only [sv_dry, sv_now, sv_k, sv_fn, sv_rd, sv_rs1, sv_rs2, sv_imm, sv_sz, sv_sg, sv_long, sv_bits, sv_ek, sv_ea, sv_eva, sv_egpa, sv_ewalk, sv_ewrote, sv_was_pc, sv_was_user, sv_was_on, sv_was_spie, sv_was_spp, sv_was_sum, sv_was_mxr, sv_was_rsv, sv_was_stvec, sv_was_sscr, sv_was_sepc, sv_was_scause, sv_was_stval, sv_was_sie, sv_was_sip, sv_was_satp, sv_was_resv, sv_h_pc, sv_h_user, sv_h_on, sv_h_spie, sv_h_spp, sv_h_sum, sv_h_mxr, sv_h_rsv, sv_h_stvec, sv_h_sscr, sv_h_sepc, sv_h_scause, sv_h_stval, sv_h_sie, sv_h_sip, sv_h_satp, sv_h_resv, sv_c])
    | ((with_reducible refine Step.gate_load (t := 36) rfl ?_); refine Step.load (HY.out.below HB.out).step rfl rfl rfl pl_pc (sv_ok _ (by decide)) ?_; simp only [sv_c])
    | ((with_reducible refine Step.gate_load (t := 37) rfl ?_); refine Step.load (HY.out.below HB.out).mc.core rfl rfl rfl pl_pm cc_m ?_)
    | (go_at_call 127; (with_reducible refine (TR.out _ HB.out).mono ?_); rintro e w' ⟨rfl, hb⟩; replace HB := Lib.hid (below_below HB.out hb); clear hb)
    | (go_at_call 132; (with_reducible refine (TD.out _ HB.out).mono ?_); rintro e w' ⟨rfl, hb⟩; replace HB := Lib.hid (below_below HB.out (Enc.below_drawn hb)); clear hb))
  refine bodyPost_ret (results_tmp2 rfl _ _ _) rfl ?_
  exact ⟨rfl, HB.out⟩
end Go.Proofs.YthkodjkkcgdmfaaGreat.Hart
end
section
namespace Go.Proofs.YthkodjkkcgdmfaaGreat.Tab
open Go Go.RowKit Go.Proofs.YthkodjkkcgdmfaaGreat.Mem
set_option linter.unusedVariables false
set_option linter.unusedSimpArgs false
/-- A word of 64 bits. -/
def U64 (v : Int) : Prop := 0 ≤ v ∧ v < 18446744073709551616
/-- The low byte of an entry, and its bits. -/
def lo (e : Int) : Nat := e.toNat % 256
def bt (e : Int) (i : Nat) : Bool := (lo e).testBit i
theorem or_add {a b : Int} (s : Nat) (ha : U64 a) (hd : a % (2 ^ s : Nat) = 0) (hb : 0 ≤ b ∧ b < (2 ^ s : Nat)) (hb2 : b < 18446744073709551616) : bits .or .u64 a b = a + b := by
  obtain ⟨a1, a2⟩ := ha
  obtain ⟨b1, b2⟩ := hb
  rw [u64_or _ _ a1 a2 b1 hb2]
  obtain ⟨A, rfl⟩ := Int.eq_ofNat_of_zero_le a1
  obtain ⟨B, rfl⟩ := Int.eq_ofNat_of_zero_le b1
  simp only [Int.toNat_natCast]
  have hA : A = 2 ^ s * (A / 2 ^ s) := by
    have : A % 2 ^ s = 0 := by omega
    have := Nat.div_add_mod A (2 ^ s)
    omega
  have : A ||| B = A + B := by
    rw [hA]
    exact (Nat.two_pow_add_eq_or_of_lt (by omega) _).symm
  omega
/-- Is an entry wrong; does it point to a table; the page that it names. -/
def wrongB (e : Int) : Bool := !bt e 0 || (bt e 2 && !bt e 1) || decide (18014398509481984 ≤ e)
def ptr (e : Int) : Bool := !bt e 1 && !bt e 3
def pn (e : Int) : Int := e / 1024 % 17592186044416
/-- A leaf whose page is no multiple of its level's. -/
def odd (e : Int) (l : Nat) : Bool := decide (pn e % (2 ^ (9 * l) : Nat) ≠ 0)
/-- The address that a leaf makes. -/
def at_ (e : Int) (l : Nat) (addr : Int) : Int := pn e * 4096 + addr % (2 ^ (12 + 9 * l) : Nat)
/-- The place in a table. -/
def ix (addr : Int) (l : Nat) : Int := addr / (2 ^ (12 + 9 * l) : Nat) % 512
/-- What a walk comes to: a read that failed, a fault of the tables, a leaf and its level. -/
inductive Res where | bus (f t i : Int) | page | leaf (e : Int) (l : Nat)
def down (rd : Int → Int → Int × Int) (addr : Int) : Nat → Int → Res
  | 0, _ => .page
  | l + 1, t =>
    if (rd t (ix addr l)).2 ≠ 0 then .bus (rd t (ix addr l)).2 t (ix addr l) else if wrongB (rd t (ix addr l)).1 = true then .page
    else if ptr (rd t (ix addr l)).1 = true then down rd addr l (pn (rd t (ix addr l)).1) else if odd (rd t (ix addr l)).1 l = true then .page else .leaf (rd t (ix addr l)).1 l
/-- A table's entry in a memory. -/
def phys (base : Int) (n : Nat) (mem : Nat → Int) (t i : Int) : Int × Int :=
  if 4503599627370496 ≤ t then (0, 3) else if hasB base n (t * 4096 + 8 * i) 8 = true then (num mem (t * 4096 + 8 * i - base).toNat 8, 0) else (0, 3)
/-- Does a leaf of the second stage let an access; what it allows. -/
def lets2 (e a : Int) : Bool := bt e 4 && bt e 6 && (if a = 1 then bt e 3 else if a = 2 then bt e 1 else if a = 3 then bt e 2 && bt e 7 else false)
def perm (e : Int) : Int := (if bt e 1 = true then 2 else 0) + (if bt e 2 = true ∧ bt e 7 = true then 4 else 0) + (if bt e 3 = true then 8 else 0)
def guestOf (gpa a : Int) : Res → Int × Int × Int
  | .bus f _ _ => (0, 0, f)
  | .page => (0, 0, 2)
  | .leaf e l => if lets2 e a = true then (at_ e l gpa, perm e, 0) else (0, 0, 2)
/-- The second stage. -/
def guest (base : Int) (n : Nat) (mem : Nat → Int) (root gpa a : Int) : Int × Int × Int :=
  if root = 0 then (gpa, 14, 0) else if 549755813888 ≤ gpa then (0, 0, 2) else guestOf gpa a (down (phys base n mem) gpa 3 root)
/-- Does a leaf of the first stage let an access? -/
def lets1 (user sum mxr : Bool) (e a : Int) : Bool :=
  !((user && !bt e 4) || (!user && bt e 4 && (decide (a = 1) || !sum))) && bt e 6 && (if a = 1 then bt e 3 else if a = 2 then bt e 1 || (mxr && bt e 3) else if a = 3 then bt e 2 && bt e 7 else false)
/-- What a translation comes to: the physical and the guest-physical address, the fault, whether it was an entry's. -/
structure Place where
  pa : Int
  gpa : Int
  fault : Int
  walk : Bool
def second (base : Int) (n : Nat) (mem : Nat → Int) (root g a : Int) : Place :=
  if (guest base n mem root g a).2.2 ≠ 0 then ⟨0, g, (guest base n mem root g a).2.2, false⟩ else ⟨(guest base n mem root g a).1, g, 0, false⟩
/-- Is a virtual address one of 39 bits, extended? -/
def canon (va : Int) : Bool := decide (va < 274877906944) || decide (18446743798831644672 ≤ va)
def firstOf (user sum mxr : Bool) (va a : Int) : Res → Place ⊕ Int
  | .bus f t i => .inl ⟨0, t * 4096 + 8 * i, f, true⟩
  | .page => .inl ⟨0, 0, 1, false⟩
  | .leaf e l => if lets1 user sum mxr e a = true then .inr (at_ e l va) else .inl ⟨0, 0, 1, false⟩
/-- The first stage's answer: a fault and where, or the guest-physical address. -/
def first (rd : Int → Int → Int × Int) (satp : Int) (user sum mxr : Bool) (va a : Int) : Place ⊕ Int :=
  if satp / 1152921504606846976 = 0 then .inr va else if satp / 1152921504606846976 ≠ 8 then .inl ⟨0, 0, 1, false⟩
  else if canon va = false then .inl ⟨0, 0, 1, false⟩ else firstOf user sum mxr va a (down rd va 3 (satp % 17592186044416))
end Go.Proofs.YthkodjkkcgdmfaaGreat.Tab
end
section
namespace Go.Proofs.YthkodjkkcgdmfaaGreat.Hart
open Go Go.RowKit Go.Proofs.YthkodjkkcgdmfaaGreat.Step Go.Proofs.YthkodjkkcgdmfaaGreat.Enc Go.Proofs.YthkodjkkcgdmfaaGreat.Kn
open Go.Proofs.YthkodjkkcgdmfaaGreat.Mem (Ram Grow hasB wholeB num wr)
set_option linter.unusedVariables false
set_option linter.unusedSimpArgs false
set_option maxRecDepth 100000
theorem Out.step {W w' : World} {gs gm n : Nat} {s' : Stp} {tv km : Value} {root vmid base : Int} {mem' : Nat → Int} {F G : Nat → Prop} {T : World → Prop} (h : Out W w' gs s' gm tv root vmid km base n mem' F G T) : Blk w' gs (sc s') TS := by obtain ⟨F', a, _⟩ := h; exact a.step
theorem u16_and_nat (a b : Nat) (ha : a < 65536) (hb : b < 65536) : bits .and .u16 (a : Int) (b : Int) = ((a &&& b : Nat) : Int) := by
  have hx : a &&& b < 2 ^ 16 := Nat.and_lt_two_pow _ (by omega)
  show IntKind.u16.wrap ((BitVec.ofInt 16 (a : Int) &&& BitVec.ofInt 16 (b : Int)).toNat : Int) = _
  rw [BitVec.toNat_and, BitVec.ofInt_natCast, BitVec.ofInt_natCast, BitVec.toNat_ofNat, BitVec.toNat_ofNat, Nat.mod_eq_of_lt (by omega), Nat.mod_eq_of_lt (by omega)]
  show (_ : Int) % 65536 = _
  omega
theorem u16_mask3 {c : Int} (h : 0 ≤ c ∧ c < 65536) : bits .and .u16 c 3 = c % 4 := by
  obtain ⟨n, rfl⟩ := Int.eq_ofNat_of_zero_le h.1
  have := u16_and_nat n 3 (by omega) (by decide)
  rw [show ((3 : Nat) : Int) = 3 from rfl] at this
  rw [this, show n &&& 3 = n % 4 from Nat.and_two_pow_sub_one_eq_mod n 2]
  omega
theorem size_any (c : Int) (h0 : 0 ≤ c ∧ c < 65536) (w : World) : Calls Tryz.prog 108 #[.int .u16 c] w fun e w' => e = .returned (.int .i64 (if c % 4 = 3 then 4 else 2)) ∧ Below w.heap.size w w' := by
  have hm : bits .and .u16 c 3 = c % 4 := u16_mask3 h0
  by_cases h : c % 4 = 3
  · rw [if_pos h]
    rw [h] at hm
    clear h h0
    go_enter Tryz.func108, Tryz.ntmps108
    have HB := Lib.hid (Below.refl _ _ : Below w.heap.size w w)
    go_wp2
    go_ret
    exact ⟨rfl, HB.out⟩
  · rw [if_neg h]
    have hm' : (bits .and .u16 c 3 == 3) = false := by rw [hm]; exact beq_eq_false_iff_ne.2 h
    clear hm h h0
    go_enter Tryz.func108, Tryz.ntmps108
    have HB := Lib.hid (Below.refl _ _ : Below w.heap.size w w)
    go_wp2
    go_ret
    exact ⟨rfl, HB.out⟩
set_option maxHeartbeats 8000000 in
theorem fetch_4 {W : World} {gs gm n : Nat} {s : Stp} {tv km : Value} {vmid base : Int} {mem : Nat → Int} {F G : Nat → Prop} {T : World → Prop} (h : Sy W gs s gm tv 0 vmid km base n mem F G T) (hs : s.was.satp / 1152921504606846976 = 0) (hs0 : U64 s.was.satp) (hpc : 0 ≤ s.was.pc ∧ s.was.pc + 2 < 18446744073709551616) (h1 : hasB base n s.was.pc 2 = true) (h2 : hasB base n (s.was.pc + 2) 2 = true) (lo hi : Int) (elo : num mem (s.was.pc - base).toNat 2 = lo) (ehi : num mem (s.was.pc + 2 - base).toNat 2 = hi) (hlo : 0 ≤ lo ∧ lo < 65536) (hhi : 0 ≤ hi ∧ hi < 65536) (h4 : lo % 4 = 3) :
    Calls Tryz.prog 62 #[.pointer (some ⟨gs, 0, none⟩)] W fun e w' => e = .returned (.tuple #[.int .u32 (hi * 65536 + lo), .bool true]) ∧ Blk w' gs (sc ({ s with bits := hi * 65536 + lo, long := 4 })) TS ∧ Mod (One gs) W w' := by
  have T1 := Lib.hid (fun (W' : World) (s' : Stp) (y : Sy W' gs s' gm tv 0 vmid km base n mem F G T) (e : s'.was = s.was) => load_yes y (by rw [e]; exact hs) (by rw [e]; exact hs0) (va := s.was.pc) (z := 2) (k := 2) rfl ⟨by omega, by omega⟩ (by decide) h1 1)
  have T2 := Lib.hid (fun (W' : World) (s' : Stp) (y : Sy W' gs s' gm tv 0 vmid km base n mem F G T) (e : s'.was = s.was) => load_yes y (by rw [e]; exact hs) (by rw [e]; exact hs0) (va := s.was.pc + 2) (z := 2) (k := 2) rfl ⟨by omega, by omega⟩ (by decide) h2 1)
  rw [elo] at T1
  rw [ehi] at T2
  have TZ := Lib.hid (size_any lo hlo)
  rw [if_pos h4] at TZ
  have e1 : IntKind.u64.wrap (s.was.pc + 2) = s.was.pc + 2 := IntWalk.u64_in _ (by omega)
  have e2 : lo % 65536 = lo := by omega
  have e3 : IntKind.u64.wrap (hi * 65536) = hi * 65536 := IntWalk.u64_in _ (by omega)
  have e4 : bits .or .u64 (hi * 65536) lo = hi * 65536 + lo := Tab.or_add 16 ⟨by omega, by omega⟩ (by omega) ⟨by omega, by omega⟩ (by omega)
  have e5 : (hi * 65536 + lo) % 4294967296 = hi * 65536 + lo := by omega
  have HO := Lib.hid h
  have HM := Lib.hid (Mod.refl (One gs) W)
  clear h hs hs0 h1 h2 elo ehi hlo hhi h4 hpc
  go_enter Tryz.func62, Tryz.ntmps62
  go_wp2_with (first
    | (go_at_call 107; (with_reducible refine (T1.out _ _ HO.out rfl).mono ?_); rintro e w' ⟨rfl, hb⟩; replace HO := Lib.hid (HO.out.below hb); replace HM := Lib.hid (HM.out.trans (Mod.of_below hb _)); clear hb)
    | (go_at_call 107; (with_reducible refine (T2.out _ _ HO.out rfl).mono ?_); rintro e w' ⟨rfl, hb⟩; replace HO := Lib.hid (HO.out.below hb); replace HM := Lib.hid (HM.out.trans (Mod.of_below hb _)); clear hb)
    | (go_at_call 108; (with_reducible refine (TZ.out _).mono ?_); rintro e w' ⟨rfl, hb⟩; replace HO := Lib.hid (HO.out.below hb); replace HM := Lib.hid (HM.out.trans (Mod.of_below hb _)); clear hb)
    | ((with_reducible refine Step.gate_store (t := 22) rfl ?_); refine Step.store HO.out.step rfl rfl rfl rfl rfl pl_u64 rfl rfl ?_; intro w3 nb m; simp [go_sem, sst_dry, sst_now, sst_k, sst_fn, sst_rd, sst_rs1, sst_rs2, sst_imm, sst_sz, sst_sg, sst_long, sst_bits, sst_ek, sst_ea, sst_eva, sst_egpa, sst_ewalk, sst_ewrote, sst_h_pc, sst_h_user, sst_h_on, sst_h_spie, sst_h_spp, sst_h_sum, sst_h_mxr, sst_h_rsv, sst_h_stvec, sst_h_sscr, sst_h_sepc, sst_h_scause, sst_h_stval, sst_h_sie, sst_h_sip, sst_h_satp, sst_h_resv, sst_h_x0] at nb; replace HO := Lib.hid (HO.out.set nb m rfl); replace HM := Lib.hid (HM.out.trans m); clear nb m)
    | ((with_reducible refine Step.gate_load (t := 22) rfl ?_); refine Step.load HO.out.step rfl rfl rfl pl_u64 (sv_ok _ (by decide)) ?_; simp only [sv_dry, sv_now, sv_k, sv_fn, sv_rd, sv_rs1, sv_rs2, sv_imm, sv_sz, sv_sg, sv_long, sv_bits, sv_ek, sv_ea, sv_eva, sv_egpa, sv_ewalk, sv_ewrote, sv_was_pc, sv_was_user, sv_was_on, sv_was_spie, sv_was_spp, sv_was_sum, sv_was_mxr, sv_was_rsv, sv_was_stvec, sv_was_sscr, sv_was_sepc, sv_was_scause, sv_was_stval, sv_was_sie, sv_was_sip, sv_was_satp, sv_was_resv, sv_h_pc, sv_h_user, sv_h_on, sv_h_spie, sv_h_spp, sv_h_sum, sv_h_mxr, sv_h_rsv, sv_h_stvec, sv_h_sscr, sv_h_sepc, sv_h_scause, sv_h_stval, sv_h_sie, sv_h_sip, sv_h_satp, sv_h_resv, sv_c])
    | ((with_reducible refine Step.gate_load (t := 3) rfl ?_); refine Step.load HO.out.step rfl rfl rfl pl_int (sv_ok _ (by decide)) ?_; simp only [sv_dry, sv_now, sv_k, sv_fn, sv_rd, sv_rs1, sv_rs2, sv_imm, sv_sz, sv_sg, sv_long, sv_bits, sv_ek, sv_ea, sv_eva, sv_egpa, sv_ewalk, sv_ewrote, sv_was_pc, sv_was_user, sv_was_on, sv_was_spie, sv_was_spp, sv_was_sum, sv_was_mxr, sv_was_rsv, sv_was_stvec, sv_was_sscr, sv_was_sepc, sv_was_scause, sv_was_stval, sv_was_sie, sv_was_sip, sv_was_satp, sv_was_resv, sv_h_pc, sv_h_user, sv_h_on, sv_h_spie, sv_h_spp, sv_h_sum, sv_h_mxr, sv_h_rsv, sv_h_stvec, sv_h_sscr, sv_h_sepc, sv_h_scause, sv_h_stval, sv_h_sie, sv_h_sip, sv_h_satp, sv_h_resv, sv_c])
    | ((with_reducible refine Step.gate_load (t := 4) rfl ?_); refine Step.load HO.out.step rfl rfl rfl pl_bool (sv_ok _ (by decide)) ?_; simp only [sv_dry, sv_now, sv_k, sv_fn, sv_rd, sv_rs1, sv_rs2, sv_imm, sv_sz, sv_sg, sv_long, sv_bits, sv_ek, sv_ea, sv_eva, sv_egpa, sv_ewalk, sv_ewrote, sv_was_pc, sv_was_user, sv_was_on, sv_was_spie, sv_was_spp, sv_was_sum, sv_was_mxr, sv_was_rsv, sv_was_stvec, sv_was_sscr, sv_was_sepc, sv_was_scause, sv_was_stval, sv_was_sie, sv_was_sip, sv_was_satp, sv_was_resv, sv_h_pc, sv_h_user, sv_h_on, sv_h_spie, sv_h_spp, sv_h_sum, sv_h_mxr, sv_h_rsv, sv_h_stvec, sv_h_sscr, sv_h_sepc, sv_h_scause, sv_h_stval, sv_h_sie, sv_h_sip, sv_h_satp, sv_h_resv, sv_c]))
  refine bodyPost_ret (results_tmp2 rfl _ _ _) rfl ?_
  exact ⟨rfl, HO.out.step, HM.out⟩
end Go.Proofs.YthkodjkkcgdmfaaGreat.Hart
end
section
namespace Go.Proofs.YthkodjkkcgdmfaaGreat.Enc
open Go Go.RowKit Go.Proofs.YthkodjkkcgdmfaaGreat.Step
set_option linter.unusedVariables false
set_option linter.unusedSimpArgs false
set_option maxRecDepth 100000
/-- What an operation of two registers does. -/
def regF (wide : Bool) (s x : Int) : Int :=
  if wide then (if s = 0 then pk ([1, 3, 4, 5, 6, 7, 9, 10] : List Int) x else if s = 32 then pk ([2, 0, 0, 0, 0, 8] : List Int) x else if s = 1 then pk ([11, 12, 13, 14, 15, 16, 17, 18] : List Int) x else 0)
  else (if s = 0 then pk ([19, 21, 0, 0, 0, 22] : List Int) x else if s = 32 then pk ([20, 0, 0, 0, 0, 23] : List Int) x else if s = 1 then pk ([24, 0, 0, 0, 25, 26, 27, 28] : List Int) x else 0)
/-- What an operation with an immediate does: the operation, the immediate, whether it is one. -/
def im13 (hi x sh m : Int) : Int × Int × Bool :=
  if x = 1 then (if hi = 0 then (3, sh, true) else (0, m, false))
  else if x = 5 then (if hi = 0 then (7, sh, true) else if hi = 16 then (8, sh, true) else (0, m, false))
  else (pk ([1, 0, 4, 5, 6, 0, 9, 10] : List Int) x, m, true)
def im1b (s x sh m : Int) : Int × Int × Bool :=
  if x = 0 then (19, m, true) else if x = 1 then (if s = 0 then (21, sh, true) else (0, m, false))
  else if x = 5 then (if s = 0 then (22, sh, true) else if s = 32 then (23, sh, true) else (0, m, false)) else (0, m, false)
set_option maxHeartbeats 2000000 in
theorem immediate13 (a rd rs1 m : Int) (ha : W32 a) (hop : fd a 6 0 = 19) (w : World) :
    Calls Tryz.prog 168 #[.int .u32 a, .agg #[.int .i64 9, .int .i64 0, .int .i64 rd, .int .i64 rs1, .int .i64 0, .int .i64 m, .int .i64 0, .bool false]] w fun e w' => e = .returned (.tuple #[.agg #[.int .i64 9, .int .i64 ((im13 (fd a 31 26) (fd a 14 12) (fd a 25 20) m).1), .int .i64 rd, .int .i64 rs1, .int .i64 0, .int .i64 ((im13 (fd a 31 26) (fd a 14 12) (fd a 25 20) m).2.1), .int .i64 0, .bool false], .bool ((im13 (fd a 31 26) (fd a 14 12) (fd a 25 20) m).2.2)]) ∧ Below w.heap.size w w' := by
  have T0 := Lib.hid (fun w => calls_below (op_any a ha w))
  have T2 := Lib.hid (fun w => calls_below (f3_any a ha w))
  have T3 := Lib.hid (fun w => calls_below (bits_any a 31 26 31 26 ha rfl rfl (by decide) (by decide) w))
  have T4 := Lib.hid (fun w => calls_below (bits_any a 25 20 25 20 ha rfl rfl (by decide) (by decide) w))
  have HX := Lib.hid (small (fd_lit (a := a) (h := 14) (l := 12) (n := 8) rfl) (by decide))
  rw [hop] at T0
  clear hop
  generalize fd a 31 26 = hi at *
  generalize fd a 14 12 = x at *
  generalize fd a 25 20 = sh at *
  unfold im13
  by_cases h1 : x = 1
  · rw [if_pos h1]
    by_cases h2 : hi = 0
    · rw [if_pos h2]
      go_enter Tryz.func168, Tryz.ntmps168
      go_wp2_with (first
        | (go_at_call 136; (with_reducible refine (T0.out _).mono ?_); rintro e w' ⟨rfl, hb⟩; (try (have pb_ := Lib.hid (PB.out.below hb); clear PB; have PB := pb_)); have st_ := Lib.hid (ST.out.call hb); clear ST hb; have ST := st_)
        | (go_at_call 137; (with_reducible refine (T2.out _).mono ?_); rintro e w' ⟨rfl, hb⟩; (try (have pb_ := Lib.hid (PB.out.below hb); clear PB; have PB := pb_)); have st_ := Lib.hid (ST.out.call hb); clear ST hb; have ST := st_)
        | (go_at_call 159; (with_reducible refine (T3.out _).mono ?_); rintro e w' ⟨rfl, hb⟩; (try (have pb_ := Lib.hid (PB.out.below hb); clear PB; have PB := pb_)); have st_ := Lib.hid (ST.out.call hb); clear ST hb; have ST := st_)
        | (go_at_call 159; (with_reducible refine (T4.out _).mono ?_); rintro e w' ⟨rfl, hb⟩; (try (have pb_ := Lib.hid (PB.out.below hb); clear PB; have PB := pb_)); have st_ := Lib.hid (ST.out.call hb); clear ST hb; have ST := st_)
        | ((with_reducible refine Step.gate_box (t := 44) rfl ?_); refine Step.fresh (cs := #[.int .i64 9, .int .i64 0, .int .i64 rd, .int .i64 rs1, .int .i64 0, .int .i64 m, .int .i64 0, .bool false]) (T := 44) rfl ?hr ?_; (case hr => first | (go_simp; done) | (go_simp; rfl)); intro g1 w1 b hg hb; have ST := Lib.hid (S1.made b hg hb); clear b hg hb)
        | ((with_reducible refine Step.gate_alloc (t := 44) rfl ?_); refine Step.freshAlloc rfl rfl (alloc_agg zero_inst) ?_; intro g2 w2 b hg hb; have st_ := Lib.hid (ST.out.more b hg hb); clear ST b hg hb; have ST := st_)
        | ((with_reducible refine Step.gate_store (t := 3) rfl ?_); refine Step.store ST.out.one rfl rfl rfl rfl rfl pl_int rfl rfl ?_; intro w3 nb m; have st_ := Lib.hid (ST.out.set1 nb m); clear ST nb m; have ST := st_)
        | ((with_reducible refine Step.gate_store (t := 4) rfl ?_); refine Step.store ST.out.one rfl rfl rfl rfl rfl pl_bool rfl rfl ?_; intro w3 nb m; have st_ := Lib.hid (ST.out.set1 nb m); clear ST nb m; have ST := st_)
        | ((with_reducible refine Step.gate_store (t := 44) rfl ?_); refine Step.storeAll ST.out.one rfl rfl rfl rfl rfl size_inst rfl rfl ?_; intro w3 nb m; have st_ := Lib.hid (ST.out.set1 nb m); clear ST nb m; have ST := st_)
        | ((with_reducible refine Step.gate_load (t := 3) rfl ?_); refine Step.load ST.out.one rfl rfl rfl pl_int rfl ?_)
        | ((with_reducible refine Step.gate_load (t := 4) rfl ?_); refine Step.load ST.out.one rfl rfl rfl pl_bool rfl ?_)
        | ((with_reducible refine Step.gate_load (t := 44) rfl ?_); refine Step.loadAll ST.out.one rfl rfl rfl Tryz.underlying44 rfl size_inst ?_)
        | ((with_reducible refine Step.gate_store (t := 3) rfl ?_); refine Step.store ST.out.two rfl rfl rfl rfl rfl pl_int rfl rfl ?_; intro w3 nb m; have st_ := Lib.hid (ST.out.set2 nb m); clear ST nb m; have ST := st_)
        | ((with_reducible refine Step.gate_store (t := 4) rfl ?_); refine Step.store ST.out.two rfl rfl rfl rfl rfl pl_bool rfl rfl ?_; intro w3 nb m; have st_ := Lib.hid (ST.out.set2 nb m); clear ST nb m; have ST := st_)
        | ((with_reducible refine Step.gate_store (t := 44) rfl ?_); refine Step.storeAll ST.out.two rfl rfl rfl rfl rfl size_inst rfl rfl ?_; intro w3 nb m; have st_ := Lib.hid (ST.out.set2 nb m); clear ST nb m; have ST := st_)
        | ((with_reducible refine Step.gate_load (t := 3) rfl ?_); refine Step.load ST.out.two rfl rfl rfl pl_int rfl ?_)
        | ((with_reducible refine Step.gate_load (t := 4) rfl ?_); refine Step.load ST.out.two rfl rfl rfl pl_bool rfl ?_)
        | ((with_reducible refine Step.gate_load (t := 44) rfl ?_); refine Step.loadAll ST.out.two rfl rfl rfl Tryz.underlying44 rfl size_inst ?_))
      refine bodyPost_ret (results_row_tmp rfl _ _ g2 _ _ _ rfl ST.out.two Tryz.underlying44 rfl size_inst) rfl ⟨rfl, ST.out.below⟩
    · rw [if_neg h2]
      go_enter Tryz.func168, Tryz.ntmps168
      go_wp2_with (first
        | (go_at_call 136; (with_reducible refine (T0.out _).mono ?_); rintro e w' ⟨rfl, hb⟩; (try (have pb_ := Lib.hid (PB.out.below hb); clear PB; have PB := pb_)); have st_ := Lib.hid (ST.out.call hb); clear ST hb; have ST := st_)
        | (go_at_call 137; (with_reducible refine (T2.out _).mono ?_); rintro e w' ⟨rfl, hb⟩; (try (have pb_ := Lib.hid (PB.out.below hb); clear PB; have PB := pb_)); have st_ := Lib.hid (ST.out.call hb); clear ST hb; have ST := st_)
        | (go_at_call 159; (with_reducible refine (T3.out _).mono ?_); rintro e w' ⟨rfl, hb⟩; (try (have pb_ := Lib.hid (PB.out.below hb); clear PB; have PB := pb_)); have st_ := Lib.hid (ST.out.call hb); clear ST hb; have ST := st_)
        | (go_at_call 159; (with_reducible refine (T4.out _).mono ?_); rintro e w' ⟨rfl, hb⟩; (try (have pb_ := Lib.hid (PB.out.below hb); clear PB; have PB := pb_)); have st_ := Lib.hid (ST.out.call hb); clear ST hb; have ST := st_)
        | ((with_reducible refine Step.gate_box (t := 44) rfl ?_); refine Step.fresh (cs := #[.int .i64 9, .int .i64 0, .int .i64 rd, .int .i64 rs1, .int .i64 0, .int .i64 m, .int .i64 0, .bool false]) (T := 44) rfl ?hr ?_; (case hr => first | (go_simp; done) | (go_simp; rfl)); intro g1 w1 b hg hb; have ST := Lib.hid (S1.made b hg hb); clear b hg hb)
        | ((with_reducible refine Step.gate_alloc (t := 44) rfl ?_); refine Step.freshAlloc rfl rfl (alloc_agg zero_inst) ?_; intro g2 w2 b hg hb; have st_ := Lib.hid (ST.out.more b hg hb); clear ST b hg hb; have ST := st_)
        | ((with_reducible refine Step.gate_store (t := 3) rfl ?_); refine Step.store ST.out.one rfl rfl rfl rfl rfl pl_int rfl rfl ?_; intro w3 nb m; have st_ := Lib.hid (ST.out.set1 nb m); clear ST nb m; have ST := st_)
        | ((with_reducible refine Step.gate_store (t := 4) rfl ?_); refine Step.store ST.out.one rfl rfl rfl rfl rfl pl_bool rfl rfl ?_; intro w3 nb m; have st_ := Lib.hid (ST.out.set1 nb m); clear ST nb m; have ST := st_)
        | ((with_reducible refine Step.gate_store (t := 44) rfl ?_); refine Step.storeAll ST.out.one rfl rfl rfl rfl rfl size_inst rfl rfl ?_; intro w3 nb m; have st_ := Lib.hid (ST.out.set1 nb m); clear ST nb m; have ST := st_)
        | ((with_reducible refine Step.gate_load (t := 3) rfl ?_); refine Step.load ST.out.one rfl rfl rfl pl_int rfl ?_)
        | ((with_reducible refine Step.gate_load (t := 4) rfl ?_); refine Step.load ST.out.one rfl rfl rfl pl_bool rfl ?_)
        | ((with_reducible refine Step.gate_load (t := 44) rfl ?_); refine Step.loadAll ST.out.one rfl rfl rfl Tryz.underlying44 rfl size_inst ?_)
        | ((with_reducible refine Step.gate_store (t := 3) rfl ?_); refine Step.store ST.out.two rfl rfl rfl rfl rfl pl_int rfl rfl ?_; intro w3 nb m; have st_ := Lib.hid (ST.out.set2 nb m); clear ST nb m; have ST := st_)
        | ((with_reducible refine Step.gate_store (t := 4) rfl ?_); refine Step.store ST.out.two rfl rfl rfl rfl rfl pl_bool rfl rfl ?_; intro w3 nb m; have st_ := Lib.hid (ST.out.set2 nb m); clear ST nb m; have ST := st_)
        | ((with_reducible refine Step.gate_store (t := 44) rfl ?_); refine Step.storeAll ST.out.two rfl rfl rfl rfl rfl size_inst rfl rfl ?_; intro w3 nb m; have st_ := Lib.hid (ST.out.set2 nb m); clear ST nb m; have ST := st_)
        | ((with_reducible refine Step.gate_load (t := 3) rfl ?_); refine Step.load ST.out.two rfl rfl rfl pl_int rfl ?_)
        | ((with_reducible refine Step.gate_load (t := 4) rfl ?_); refine Step.load ST.out.two rfl rfl rfl pl_bool rfl ?_)
        | ((with_reducible refine Step.gate_load (t := 44) rfl ?_); refine Step.loadAll ST.out.two rfl rfl rfl Tryz.underlying44 rfl size_inst ?_))
      refine bodyPost_ret (results_row_tmp rfl _ _ g2 _ _ _ rfl ST.out.two Tryz.underlying44 rfl size_inst) rfl ⟨rfl, ST.out.below⟩
  · rw [if_neg h1]
    by_cases h5 : x = 5
    · rw [if_pos h5]
      by_cases h2 : hi = 0
      · rw [if_pos h2]
        go_enter Tryz.func168, Tryz.ntmps168
        go_wp2_with (first
          | (go_at_call 136; (with_reducible refine (T0.out _).mono ?_); rintro e w' ⟨rfl, hb⟩; (try (have pb_ := Lib.hid (PB.out.below hb); clear PB; have PB := pb_)); have st_ := Lib.hid (ST.out.call hb); clear ST hb; have ST := st_)
          | (go_at_call 137; (with_reducible refine (T2.out _).mono ?_); rintro e w' ⟨rfl, hb⟩; (try (have pb_ := Lib.hid (PB.out.below hb); clear PB; have PB := pb_)); have st_ := Lib.hid (ST.out.call hb); clear ST hb; have ST := st_)
          | (go_at_call 159; (with_reducible refine (T3.out _).mono ?_); rintro e w' ⟨rfl, hb⟩; (try (have pb_ := Lib.hid (PB.out.below hb); clear PB; have PB := pb_)); have st_ := Lib.hid (ST.out.call hb); clear ST hb; have ST := st_)
          | (go_at_call 159; (with_reducible refine (T4.out _).mono ?_); rintro e w' ⟨rfl, hb⟩; (try (have pb_ := Lib.hid (PB.out.below hb); clear PB; have PB := pb_)); have st_ := Lib.hid (ST.out.call hb); clear ST hb; have ST := st_)
          | ((with_reducible refine Step.gate_box (t := 44) rfl ?_); refine Step.fresh (cs := #[.int .i64 9, .int .i64 0, .int .i64 rd, .int .i64 rs1, .int .i64 0, .int .i64 m, .int .i64 0, .bool false]) (T := 44) rfl ?hr ?_; (case hr => first | (go_simp; done) | (go_simp; rfl)); intro g1 w1 b hg hb; have ST := Lib.hid (S1.made b hg hb); clear b hg hb)
          | ((with_reducible refine Step.gate_alloc (t := 44) rfl ?_); refine Step.freshAlloc rfl rfl (alloc_agg zero_inst) ?_; intro g2 w2 b hg hb; have st_ := Lib.hid (ST.out.more b hg hb); clear ST b hg hb; have ST := st_)
          | ((with_reducible refine Step.gate_store (t := 3) rfl ?_); refine Step.store ST.out.one rfl rfl rfl rfl rfl pl_int rfl rfl ?_; intro w3 nb m; have st_ := Lib.hid (ST.out.set1 nb m); clear ST nb m; have ST := st_)
          | ((with_reducible refine Step.gate_store (t := 4) rfl ?_); refine Step.store ST.out.one rfl rfl rfl rfl rfl pl_bool rfl rfl ?_; intro w3 nb m; have st_ := Lib.hid (ST.out.set1 nb m); clear ST nb m; have ST := st_)
          | ((with_reducible refine Step.gate_store (t := 44) rfl ?_); refine Step.storeAll ST.out.one rfl rfl rfl rfl rfl size_inst rfl rfl ?_; intro w3 nb m; have st_ := Lib.hid (ST.out.set1 nb m); clear ST nb m; have ST := st_)
          | ((with_reducible refine Step.gate_load (t := 3) rfl ?_); refine Step.load ST.out.one rfl rfl rfl pl_int rfl ?_)
          | ((with_reducible refine Step.gate_load (t := 4) rfl ?_); refine Step.load ST.out.one rfl rfl rfl pl_bool rfl ?_)
          | ((with_reducible refine Step.gate_load (t := 44) rfl ?_); refine Step.loadAll ST.out.one rfl rfl rfl Tryz.underlying44 rfl size_inst ?_)
          | ((with_reducible refine Step.gate_store (t := 3) rfl ?_); refine Step.store ST.out.two rfl rfl rfl rfl rfl pl_int rfl rfl ?_; intro w3 nb m; have st_ := Lib.hid (ST.out.set2 nb m); clear ST nb m; have ST := st_)
          | ((with_reducible refine Step.gate_store (t := 4) rfl ?_); refine Step.store ST.out.two rfl rfl rfl rfl rfl pl_bool rfl rfl ?_; intro w3 nb m; have st_ := Lib.hid (ST.out.set2 nb m); clear ST nb m; have ST := st_)
          | ((with_reducible refine Step.gate_store (t := 44) rfl ?_); refine Step.storeAll ST.out.two rfl rfl rfl rfl rfl size_inst rfl rfl ?_; intro w3 nb m; have st_ := Lib.hid (ST.out.set2 nb m); clear ST nb m; have ST := st_)
          | ((with_reducible refine Step.gate_load (t := 3) rfl ?_); refine Step.load ST.out.two rfl rfl rfl pl_int rfl ?_)
          | ((with_reducible refine Step.gate_load (t := 4) rfl ?_); refine Step.load ST.out.two rfl rfl rfl pl_bool rfl ?_)
          | ((with_reducible refine Step.gate_load (t := 44) rfl ?_); refine Step.loadAll ST.out.two rfl rfl rfl Tryz.underlying44 rfl size_inst ?_))
        refine bodyPost_ret (results_row_tmp rfl _ _ g2 _ _ _ rfl ST.out.two Tryz.underlying44 rfl size_inst) rfl ⟨rfl, ST.out.below⟩
      · rw [if_neg h2]
        by_cases h3 : hi = 16
        · rw [if_pos h3]
          go_enter Tryz.func168, Tryz.ntmps168
          go_wp2_with (first
            | (go_at_call 136; (with_reducible refine (T0.out _).mono ?_); rintro e w' ⟨rfl, hb⟩; (try (have pb_ := Lib.hid (PB.out.below hb); clear PB; have PB := pb_)); have st_ := Lib.hid (ST.out.call hb); clear ST hb; have ST := st_)
            | (go_at_call 137; (with_reducible refine (T2.out _).mono ?_); rintro e w' ⟨rfl, hb⟩; (try (have pb_ := Lib.hid (PB.out.below hb); clear PB; have PB := pb_)); have st_ := Lib.hid (ST.out.call hb); clear ST hb; have ST := st_)
            | (go_at_call 159; (with_reducible refine (T3.out _).mono ?_); rintro e w' ⟨rfl, hb⟩; (try (have pb_ := Lib.hid (PB.out.below hb); clear PB; have PB := pb_)); have st_ := Lib.hid (ST.out.call hb); clear ST hb; have ST := st_)
            | (go_at_call 159; (with_reducible refine (T4.out _).mono ?_); rintro e w' ⟨rfl, hb⟩; (try (have pb_ := Lib.hid (PB.out.below hb); clear PB; have PB := pb_)); have st_ := Lib.hid (ST.out.call hb); clear ST hb; have ST := st_)
            | ((with_reducible refine Step.gate_box (t := 44) rfl ?_); refine Step.fresh (cs := #[.int .i64 9, .int .i64 0, .int .i64 rd, .int .i64 rs1, .int .i64 0, .int .i64 m, .int .i64 0, .bool false]) (T := 44) rfl ?hr ?_; (case hr => first | (go_simp; done) | (go_simp; rfl)); intro g1 w1 b hg hb; have ST := Lib.hid (S1.made b hg hb); clear b hg hb)
            | ((with_reducible refine Step.gate_alloc (t := 44) rfl ?_); refine Step.freshAlloc rfl rfl (alloc_agg zero_inst) ?_; intro g2 w2 b hg hb; have st_ := Lib.hid (ST.out.more b hg hb); clear ST b hg hb; have ST := st_)
            | ((with_reducible refine Step.gate_store (t := 3) rfl ?_); refine Step.store ST.out.one rfl rfl rfl rfl rfl pl_int rfl rfl ?_; intro w3 nb m; have st_ := Lib.hid (ST.out.set1 nb m); clear ST nb m; have ST := st_)
            | ((with_reducible refine Step.gate_store (t := 4) rfl ?_); refine Step.store ST.out.one rfl rfl rfl rfl rfl pl_bool rfl rfl ?_; intro w3 nb m; have st_ := Lib.hid (ST.out.set1 nb m); clear ST nb m; have ST := st_)
            | ((with_reducible refine Step.gate_store (t := 44) rfl ?_); refine Step.storeAll ST.out.one rfl rfl rfl rfl rfl size_inst rfl rfl ?_; intro w3 nb m; have st_ := Lib.hid (ST.out.set1 nb m); clear ST nb m; have ST := st_)
            | ((with_reducible refine Step.gate_load (t := 3) rfl ?_); refine Step.load ST.out.one rfl rfl rfl pl_int rfl ?_)
            | ((with_reducible refine Step.gate_load (t := 4) rfl ?_); refine Step.load ST.out.one rfl rfl rfl pl_bool rfl ?_)
            | ((with_reducible refine Step.gate_load (t := 44) rfl ?_); refine Step.loadAll ST.out.one rfl rfl rfl Tryz.underlying44 rfl size_inst ?_)
            | ((with_reducible refine Step.gate_store (t := 3) rfl ?_); refine Step.store ST.out.two rfl rfl rfl rfl rfl pl_int rfl rfl ?_; intro w3 nb m; have st_ := Lib.hid (ST.out.set2 nb m); clear ST nb m; have ST := st_)
            | ((with_reducible refine Step.gate_store (t := 4) rfl ?_); refine Step.store ST.out.two rfl rfl rfl rfl rfl pl_bool rfl rfl ?_; intro w3 nb m; have st_ := Lib.hid (ST.out.set2 nb m); clear ST nb m; have ST := st_)
            | ((with_reducible refine Step.gate_store (t := 44) rfl ?_); refine Step.storeAll ST.out.two rfl rfl rfl rfl rfl size_inst rfl rfl ?_; intro w3 nb m; have st_ := Lib.hid (ST.out.set2 nb m); clear ST nb m; have ST := st_)
            | ((with_reducible refine Step.gate_load (t := 3) rfl ?_); refine Step.load ST.out.two rfl rfl rfl pl_int rfl ?_)
            | ((with_reducible refine Step.gate_load (t := 4) rfl ?_); refine Step.load ST.out.two rfl rfl rfl pl_bool rfl ?_)
            | ((with_reducible refine Step.gate_load (t := 44) rfl ?_); refine Step.loadAll ST.out.two rfl rfl rfl Tryz.underlying44 rfl size_inst ?_))
          refine bodyPost_ret (results_row_tmp rfl _ _ g2 _ _ _ rfl ST.out.two Tryz.underlying44 rfl size_inst) rfl ⟨rfl, ST.out.below⟩
        · rw [if_neg h3]
          go_enter Tryz.func168, Tryz.ntmps168
          go_wp2_with (first
            | (go_at_call 136; (with_reducible refine (T0.out _).mono ?_); rintro e w' ⟨rfl, hb⟩; (try (have pb_ := Lib.hid (PB.out.below hb); clear PB; have PB := pb_)); have st_ := Lib.hid (ST.out.call hb); clear ST hb; have ST := st_)
            | (go_at_call 137; (with_reducible refine (T2.out _).mono ?_); rintro e w' ⟨rfl, hb⟩; (try (have pb_ := Lib.hid (PB.out.below hb); clear PB; have PB := pb_)); have st_ := Lib.hid (ST.out.call hb); clear ST hb; have ST := st_)
            | (go_at_call 159; (with_reducible refine (T3.out _).mono ?_); rintro e w' ⟨rfl, hb⟩; (try (have pb_ := Lib.hid (PB.out.below hb); clear PB; have PB := pb_)); have st_ := Lib.hid (ST.out.call hb); clear ST hb; have ST := st_)
            | (go_at_call 159; (with_reducible refine (T4.out _).mono ?_); rintro e w' ⟨rfl, hb⟩; (try (have pb_ := Lib.hid (PB.out.below hb); clear PB; have PB := pb_)); have st_ := Lib.hid (ST.out.call hb); clear ST hb; have ST := st_)
            | ((with_reducible refine Step.gate_box (t := 44) rfl ?_); refine Step.fresh (cs := #[.int .i64 9, .int .i64 0, .int .i64 rd, .int .i64 rs1, .int .i64 0, .int .i64 m, .int .i64 0, .bool false]) (T := 44) rfl ?hr ?_; (case hr => first | (go_simp; done) | (go_simp; rfl)); intro g1 w1 b hg hb; have ST := Lib.hid (S1.made b hg hb); clear b hg hb)
            | ((with_reducible refine Step.gate_alloc (t := 44) rfl ?_); refine Step.freshAlloc rfl rfl (alloc_agg zero_inst) ?_; intro g2 w2 b hg hb; have st_ := Lib.hid (ST.out.more b hg hb); clear ST b hg hb; have ST := st_)
            | ((with_reducible refine Step.gate_store (t := 3) rfl ?_); refine Step.store ST.out.one rfl rfl rfl rfl rfl pl_int rfl rfl ?_; intro w3 nb m; have st_ := Lib.hid (ST.out.set1 nb m); clear ST nb m; have ST := st_)
            | ((with_reducible refine Step.gate_store (t := 4) rfl ?_); refine Step.store ST.out.one rfl rfl rfl rfl rfl pl_bool rfl rfl ?_; intro w3 nb m; have st_ := Lib.hid (ST.out.set1 nb m); clear ST nb m; have ST := st_)
            | ((with_reducible refine Step.gate_store (t := 44) rfl ?_); refine Step.storeAll ST.out.one rfl rfl rfl rfl rfl size_inst rfl rfl ?_; intro w3 nb m; have st_ := Lib.hid (ST.out.set1 nb m); clear ST nb m; have ST := st_)
            | ((with_reducible refine Step.gate_load (t := 3) rfl ?_); refine Step.load ST.out.one rfl rfl rfl pl_int rfl ?_)
            | ((with_reducible refine Step.gate_load (t := 4) rfl ?_); refine Step.load ST.out.one rfl rfl rfl pl_bool rfl ?_)
            | ((with_reducible refine Step.gate_load (t := 44) rfl ?_); refine Step.loadAll ST.out.one rfl rfl rfl Tryz.underlying44 rfl size_inst ?_)
            | ((with_reducible refine Step.gate_store (t := 3) rfl ?_); refine Step.store ST.out.two rfl rfl rfl rfl rfl pl_int rfl rfl ?_; intro w3 nb m; have st_ := Lib.hid (ST.out.set2 nb m); clear ST nb m; have ST := st_)
            | ((with_reducible refine Step.gate_store (t := 4) rfl ?_); refine Step.store ST.out.two rfl rfl rfl rfl rfl pl_bool rfl rfl ?_; intro w3 nb m; have st_ := Lib.hid (ST.out.set2 nb m); clear ST nb m; have ST := st_)
            | ((with_reducible refine Step.gate_store (t := 44) rfl ?_); refine Step.storeAll ST.out.two rfl rfl rfl rfl rfl size_inst rfl rfl ?_; intro w3 nb m; have st_ := Lib.hid (ST.out.set2 nb m); clear ST nb m; have ST := st_)
            | ((with_reducible refine Step.gate_load (t := 3) rfl ?_); refine Step.load ST.out.two rfl rfl rfl pl_int rfl ?_)
            | ((with_reducible refine Step.gate_load (t := 4) rfl ?_); refine Step.load ST.out.two rfl rfl rfl pl_bool rfl ?_)
            | ((with_reducible refine Step.gate_load (t := 44) rfl ?_); refine Step.loadAll ST.out.two rfl rfl rfl Tryz.underlying44 rfl size_inst ?_))
          refine bodyPost_ret (results_row_tmp rfl _ _ g2 _ _ _ rfl ST.out.two Tryz.underlying44 rfl size_inst) rfl ⟨rfl, ST.out.below⟩
    · rw [if_neg h5]
      have c1 : (x != 1) = true := bne_iff_ne.2 h1
      have c5 : (x != 5) = true := bne_iff_ne.2 h5
      go_enter Tryz.func168, Tryz.ntmps168
      go_wp2_with (first
        | (go_at_call 136; (with_reducible refine (T0.out _).mono ?_); rintro e w' ⟨rfl, hb⟩; (try (have pb_ := Lib.hid (PB.out.below hb); clear PB; have PB := pb_)); have st_ := Lib.hid (ST.out.call hb); clear ST hb; have ST := st_)
        | (go_at_call 137; (with_reducible refine (T2.out _).mono ?_); rintro e w' ⟨rfl, hb⟩; (try (have pb_ := Lib.hid (PB.out.below hb); clear PB; have PB := pb_)); have st_ := Lib.hid (ST.out.call hb); clear ST hb; have ST := st_)
        | (go_at_call 159; (with_reducible refine (T3.out _).mono ?_); rintro e w' ⟨rfl, hb⟩; (try (have pb_ := Lib.hid (PB.out.below hb); clear PB; have PB := pb_)); have st_ := Lib.hid (ST.out.call hb); clear ST hb; have ST := st_)
        | (go_at_call 159; (with_reducible refine (T4.out _).mono ?_); rintro e w' ⟨rfl, hb⟩; (try (have pb_ := Lib.hid (PB.out.below hb); clear PB; have PB := pb_)); have st_ := Lib.hid (ST.out.call hb); clear ST hb; have ST := st_)
        | ((with_reducible refine Step.gate_box (t := 44) rfl ?_); refine Step.fresh (cs := #[.int .i64 9, .int .i64 0, .int .i64 rd, .int .i64 rs1, .int .i64 0, .int .i64 m, .int .i64 0, .bool false]) (T := 44) rfl ?hr ?_; (case hr => first | (go_simp; done) | (go_simp; rfl)); intro g1 w1 b hg hb; have ST := Lib.hid (S1.made b hg hb); clear b hg hb)
        | ((with_reducible refine Step.gate_alloc (t := 44) rfl ?_); refine Step.freshAlloc rfl rfl (alloc_agg zero_inst) ?_; intro g2 w2 b hg hb; have st_ := Lib.hid (ST.out.more b hg hb); clear ST b hg hb; have ST := st_)
        | ((with_reducible refine Step.gate_store (t := 3) rfl ?_); refine Step.store ST.out.one rfl rfl rfl rfl rfl pl_int rfl rfl ?_; intro w3 nb m; have st_ := Lib.hid (ST.out.set1 nb m); clear ST nb m; have ST := st_)
        | ((with_reducible refine Step.gate_store (t := 4) rfl ?_); refine Step.store ST.out.one rfl rfl rfl rfl rfl pl_bool rfl rfl ?_; intro w3 nb m; have st_ := Lib.hid (ST.out.set1 nb m); clear ST nb m; have ST := st_)
        | ((with_reducible refine Step.gate_store (t := 44) rfl ?_); refine Step.storeAll ST.out.one rfl rfl rfl rfl rfl size_inst rfl rfl ?_; intro w3 nb m; have st_ := Lib.hid (ST.out.set1 nb m); clear ST nb m; have ST := st_)
        | ((with_reducible refine Step.gate_load (t := 3) rfl ?_); refine Step.load ST.out.one rfl rfl rfl pl_int rfl ?_)
        | ((with_reducible refine Step.gate_load (t := 4) rfl ?_); refine Step.load ST.out.one rfl rfl rfl pl_bool rfl ?_)
        | ((with_reducible refine Step.gate_load (t := 44) rfl ?_); refine Step.loadAll ST.out.one rfl rfl rfl Tryz.underlying44 rfl size_inst ?_)
        | ((with_reducible refine Step.gate_store (t := 3) rfl ?_); refine Step.store ST.out.two rfl rfl rfl rfl rfl pl_int rfl rfl ?_; intro w3 nb m; have st_ := Lib.hid (ST.out.set2 nb m); clear ST nb m; have ST := st_)
        | ((with_reducible refine Step.gate_store (t := 4) rfl ?_); refine Step.store ST.out.two rfl rfl rfl rfl rfl pl_bool rfl rfl ?_; intro w3 nb m; have st_ := Lib.hid (ST.out.set2 nb m); clear ST nb m; have ST := st_)
        | ((with_reducible refine Step.gate_store (t := 44) rfl ?_); refine Step.storeAll ST.out.two rfl rfl rfl rfl rfl size_inst rfl rfl ?_; intro w3 nb m; have st_ := Lib.hid (ST.out.set2 nb m); clear ST nb m; have ST := st_)
        | ((with_reducible refine Step.gate_load (t := 3) rfl ?_); refine Step.load ST.out.two rfl rfl rfl pl_int rfl ?_)
        | ((with_reducible refine Step.gate_load (t := 4) rfl ?_); refine Step.load ST.out.two rfl rfl rfl pl_bool rfl ?_)
        | ((with_reducible refine Step.gate_load (t := 44) rfl ?_); refine Step.loadAll ST.out.two rfl rfl rfl Tryz.underlying44 rfl size_inst ?_)
        | ((with_reducible refine Step.gate_build (t := 53) rfl ?_); refine Step.freshSlice (cs := #[.int .i64 1, .int .i64 0, .int .i64 4, .int .i64 5, .int .i64 6, .int .i64 0, .int .i64 9, .int .i64 10]) (T := 3) (n := 8) (m := 8) rfl ?hr ?_; (case hr => first | (go_simp; done) | (go_simp; rfl)); intro g9 w1 b hg hb; have PB := Lib.hid (show Blk w1 g9 (Enc.ints ([1, 0, 4, 5, 6, 0, 9, 10] : List Int)) _ from b); have st_ := Lib.hid (ST.out.call hb); clear ST b hb hg; have ST := st_)
        | (go_at_call 161; have pk_ := pick_any (n := 8) PB.out ([1, 0, 4, 5, 6, 0, 9, 10] : List Int) rfl rfl (by decide) x HX.out; (with_reducible refine pk_.mono ?_); clear pk_; rintro e w' ⟨rfl, hb⟩; clear PB; have st_ := Lib.hid (ST.out.call hb); clear ST hb; have ST := st_))
      refine bodyPost_ret (results_row_tmp rfl _ _ g2 _ _ _ rfl ST.out.two Tryz.underlying44 rfl size_inst) rfl ⟨rfl, ST.out.below⟩
end Go.Proofs.YthkodjkkcgdmfaaGreat.Enc
end
section
namespace Go.Proofs.YthkodjkkcgdmfaaGreat.Enc
open Go Go.RowKit Go.Proofs.YthkodjkkcgdmfaaGreat.Step
set_option linter.unusedVariables false
set_option linter.unusedSimpArgs false
set_option maxRecDepth 100000
section
variable {P : Program} {ops : Array Oper} {fin : Act} {W : World} {o : Oper}
theorem calm_load {t : TypeId} {x : Operand} {g i : Nat} {cs : Array Value} {T : TypeId} {v : Value} (hB : Blk W g cs T) (hg : o.guard = none) (ho : o.op = .load t x) (hx : fin.eval x = .pointer (some ⟨g, i, none⟩)) (ht : plainT P t = true) (hv : cs[i]? = some v)
    (hp : fin.put o.dst v = fin) : Calm.Calm P ops fin W o :=
  Calm.calm_value hg (fun X hX => by
    have := run_load1 (P := P) ht (((hB.below hX).cell i).trans hv)
    simp [execOp, ho, hx, this, Result.andThen]) hp
end
section
variable {P : Program} {ops : Array Oper} {fin : Act} {W : World} {o : Oper} {T : TypeId} {g r : Nat} {c dn : Array Value}
/-- An operation that leaves the two as they are, whenever it comes up. -/
def Stays (P : Program) (fin : Act) (W : World) (T : TypeId) (g r : Nat) (c : Array Value) (o : Oper) : Prop :=
  o.guard = none ∧ ∀ X d, S2 W X T g r c d → o.wp P fin X (fun a' X' => a' = fin ∧ S2 W X' T g r c d) (fun _ _ _ => False)
theorem stays_value {v : Value} (hg : o.guard = none) (h : ∀ X, (execOp fin.eval o).run P X = .ok (.value v) X) (hp : fin.put o.dst v = fin) : Stays P fin W T g r c o :=
  ⟨hg, fun X d hX => by unfold Oper.wp; rw [h X]; exact ⟨hp, hX⟩⟩
theorem put_self (a : Act) (t : Nat) : a.put (some t) (a.tmps.getD t undef) = a := by
  cases a with
  | mk tm df =>
    simp only [Act.put, Act.mk.injEq, and_true]
    apply Array.ext_getElem?
    intro i
    rw [Array.getElem?_setIfInBounds]
    split
    · rename_i h; subst h
      split
      · rename_i h2; simp [Array.getD_eq_getD_getElem?, Array.getElem?_eq_getElem h2]
      · rename_i h2; rw [Array.getElem?_eq_none (by omega)]
    · rfl
theorem stays_slot {t : Nat} (hg : o.guard = none) (hd : o.dst = some t) (h : ∀ X, (execOp fin.eval o).run P X = .ok (.value (fin.tmps.getD t undef)) X) : Stays P fin W T g r c o :=
  stays_value hg h (by rw [hd]; exact put_self fin t)
theorem stays_loadAll {t : TypeId} {x : Operand} {d : TypeDesc} (hg : o.guard = none) (ho : o.op = .load t x) (hx : fin.eval x = .pointer (some ⟨g, 0, none⟩)) (hu : P.underlying t = some d)
    (hd : (match d with | .struct _ | .array _ _ => true | _ => false) = true) (hi : (P.info? t).map (·.size) = some c.size) (hp : fin.put o.dst (.agg c) = fin) : Stays P fin W T g r c o :=
  ⟨hg, fun X d' hX => by
    have h := run_loadVar_row (P := P) X g T t c (0, 0) d hX.one.out hu hd hi
    have h2 : (execOp fin.eval o).run P X = .ok (.value (.agg c)) X := by simp [execOp, ho, hx, Instr.loadAt, Instr.sureAddr, h, Result.andThen]
    unfold Oper.wp; rw [h2]; exact ⟨hp, hX⟩⟩
theorem stays_load {t : TypeId} {x : Operand} {i : Nat} {v : Value} (hg : o.guard = none) (ho : o.op = .load t x) (hx : fin.eval x = .pointer (some ⟨g, i, none⟩)) (ht : plainT P t = true) (hv : c[i]? = some v) (hp : fin.put o.dst v = fin) : Stays P fin W T g r c o :=
  ⟨hg, fun X d' hX => by
    have h := run_load1 (P := P) ht ((hX.one.cell i).trans hv)
    have h2 : (execOp fin.eval o).run P X = .ok (.value v) X := by simp [execOp, ho, hx, h, Result.andThen]
    unfold Oper.wp; rw [h2]; exact ⟨hp, hX⟩⟩
/-- The operation that writes the second whole. -/
def Sets (P : Program) (fin : Act) (W : World) (T : TypeId) (g r : Nat) (c dn : Array Value) (o : Oper) : Prop :=
  o.guard = none ∧ ∀ X d, d.size = dn.size → S2 W X T g r c d → o.wp P fin X (fun a' X' => a' = fin ∧ S2 W X' T g r c dn) (fun _ _ _ => False)
theorem sets_all {t : TypeId} {x y : Operand} (hg : o.guard = none) (ho : o.op = .store t x y) (hn : o.dst = none) (hx : fin.eval x = .pointer (some ⟨r, 0, none⟩)) (hy : fin.eval y = .agg dn) (hi : (P.info? t).map (·.size) = some dn.size)
    (h1 : dn.toList.all (·.oneCell') = true) : Sets P fin W T g r c dn o :=
  ⟨hg, fun X d hs hX => by
    have hrun := run_storeVar_row (P := P) X r T t d dn hX.two.out hi hs (by rw [← Array.all_toList]; exact h1)
    unfold Oper.wp
    simp [execOp, ho, hx, hy, Instr.storeAt, Instr.sureAddr, hrun, Result.andThen]
    simp only [Oper.upon, hn, Act.put]
    exact ⟨trivial, hX.set2 (setRow_out _ _ _ _ _ hX.two) (setRow_mod _ _ _)⟩⟩
/-- **A region in any order, of operations that leave the two as they are, and one that writes the second.** -/
theorem two_region {l : List Oper} {id : Nat} {a : Act} {w : World} {d : Array Value} {Q : Exit → Act → World → Prop} {k : Nat} {ok : Oper} (hS : S2 W w T g r c d) (hm : P.follows .mixedOrders = true) (vs : List (Tmp × Value)) (hsz : d.size = dn.size)
    (hord : Reg.ordered l.toArray = true) (hin : Reg.within l.toArray vs = true) (hfin : Reg.puts a vs = fin) (hk : l[k]? = some ok) (hset : Sets P fin W T g r c dn ok) (hdo : ∀ o ∈ l.eraseIdx k, Stays P fin W T g r c o)
    (hQ : ∀ w', S2 W w' T g r c dn → Q .normal fin w') : (Code.region id l.toArray true).wp P Q a w := by
  subst hfin
  refine Reg.region hm vs (fun L w => ∃ d, d.size = dn.size ∧ S2 W w T g r c d ∧ (L.getD k false = true → d = dn)) hord hin ⟨d, hsz, hS.call (below_drawn ⟨1, rfl⟩), fun h => ?_⟩ (fun i o ho L w hL hLi hdep hI => ?_) (fun L w hL hall hI => ?_)
  · exfalso
    simp only [Array.getD_eq_getD_getElem?, Array.getElem?_replicate] at h
    split at h <;> simp at h
  · obtain ⟨d, hd, h2, h3⟩ := hI
    have ho' : l[i]? = some o := by simpa using ho
    by_cases e : i = k
    · subst e
      obtain rfl : ok = o := by rw [hk] at ho'; simpa using ho'
      refine Reg.does_plain hset.1 (Oper.wp_mono (fun a' X' h => ?_) (hset.2 w d hd h2))
      exact ⟨h.1, dn, rfl, h.2, fun _ => rfl⟩
    · have hmem : o ∈ l.eraseIdx k := by
        rw [List.mem_eraseIdx_iff_getElem?]
        exact ⟨i, e, ho'⟩
      have hs := hdo o hmem
      refine Reg.does_plain hs.1 (Oper.wp_mono (fun a' X' h => ?_) (hs.2 w d h2))
      refine ⟨h.1, d, hd, h.2, fun h4 => h3 ?_⟩
      simpa [Array.getD_eq_getD_getElem?, Array.getElem?_setIfInBounds_ne e] using h4
  · obtain ⟨d, hd, h2, h3⟩ := hI
    have hkl : k < l.toArray.size := by simpa using (List.getElem?_eq_some_iff.1 hk).1
    have h4 := hall k hkl
    have h5 : L.getD k false = true := by
      simp only [Array.getD_eq_getD_getElem?] at h4 ⊢
      rw [Array.getElem?_eq_getElem (by rw [hL]; exact hkl)] at h4 ⊢
      exact h4
    obtain rfl := h3 h5
    exact hQ w h2
theorem stays_nil : ∀ o ∈ ([] : List Oper), Stays P fin W T g r c o := fun _ h => nomatch h
theorem stays_cons {l : List Oper} (h : Stays P fin W T g r c o) (hl : ∀ o ∈ l, Stays P fin W T g r c o) : ∀ o' ∈ o :: l, Stays P fin W T g r c o' := fun o' ho => by
  rcases List.mem_cons.1 ho with rfl | h'
  · exact h
  · exact hl o' h'
end
theorem S2.swap {W w : World} {T : TypeId} {g r : Nat} {c d : Array Value} (h : S2 W w T g r c d) : S2 W w T r g d c := ⟨h.below, h.two, h.one, fun e => h.ne e.symm, h.lo2, h.lo⟩
theorem alloc_run {t : TypeId} {cs : Array Value} {oa : Oper} (ho : oa.op = .alloc t) (hz : (Tryz.prog.info? t).bind (·.zero) = some (.agg cs)) (b : Act) (X : World) : (execOp b.eval oa).run Tryz.prog X = .ok (.value (Calm.ptr X.heap.size)) (X.alloc (.cells cs t (0, 0))) := by
  simp [execOp, ho, alloc_agg hz X, Result.andThen, Calm.ptr]
theorem calm_slot {P : Program} {ops : Array Oper} {fin : Act} {W : World} {o : Oper} {t : Nat} (hg : o.guard = none) (hd : o.dst = some t) (h : ∀ X, (execOp fin.eval o).run P X = .ok (.value (fin.tmps.getD t undef)) X) : Calm.Calm P ops fin W o :=
  Calm.calm_value hg (fun X _ => h X) (by rw [hd]; exact put_self fin t)
theorem calm_callg {P : Program} {ops : Array Oper} {fin : Act} {W : World} {o : Oper} {f : FuncId} {args : Array Value} {v : Value} {cc : Call} (_ : o.op = .call cc) (hg : o.guard = none) (h : ∀ X, (execOp fin.eval o).run P X = .ok (.enter f args) X)
    (hc : ∀ X, Calls P f args X fun e X' => e = .returned v ∧ Below X.heap.size X X') (hp : fin.put o.dst v = fin) : Calm.Calm P ops fin W o := Calm.calm_call hg h (fun X _ => hc X) hp
end Go.Proofs.YthkodjkkcgdmfaaGreat.Enc
end
