/- Parts of the walks and laws for the claim: Tab, McC; no conditions beyond the theorems' own. -/
import Derived.Test.YtidiojhefjhojaaGreatQ3
section
namespace Go.Proofs.YtidiojhefjhojaaGreat.Tab
open Go Go.RowKit Go.Proofs.YtidiojhefjhojaaGreat.Mem
set_option linter.unusedVariables false
set_option linter.unusedSimpArgs false
/-- A word of 64 bits. -/
def U64 (v : Int) : Prop := 0 ≤ v ∧ v < 18446744073709551616
/-- The low byte of an entry, and its bits. -/
def lo (e : Int) : Nat := e.toNat % 256
def bt (e : Int) (i : Nat) : Bool := (lo e).testBit i
theorem or_add {a b : Int} (s : Nat) (ha : U64 a) (hd : a % (2 ^ s : Nat) = 0) (hb : 0 ≤ b ∧ b < (2 ^ s : Nat)) (hb2 : b < 18446744073709551616) : bits .or .u64 a b = a + b := by
  obtain ⟨a1, a2⟩ := ha
  obtain ⟨b1, b2⟩ := hb
  rw [u64_or _ _ a1 a2 b1 hb2]
  obtain ⟨A, rfl⟩ := Int.eq_ofNat_of_zero_le a1
  obtain ⟨B, rfl⟩ := Int.eq_ofNat_of_zero_le b1
  simp only [Int.toNat_natCast]
  have hA : A = 2 ^ s * (A / 2 ^ s) := by
    have : A % 2 ^ s = 0 := by omega
    have := Nat.div_add_mod A (2 ^ s)
    omega
  have : A ||| B = A + B := by
    rw [hA]
    exact (Nat.two_pow_add_eq_or_of_lt (by omega) _).symm
  omega
/-- Is an entry wrong; does it point to a table; the page that it names. -/
def wrongB (e : Int) : Bool := !bt e 0 || (bt e 2 && !bt e 1) || decide (18014398509481984 ≤ e)
def ptr (e : Int) : Bool := !bt e 1 && !bt e 3
def pn (e : Int) : Int := e / 1024 % 17592186044416
/-- A leaf whose page is no multiple of its level's. -/
def odd (e : Int) (l : Nat) : Bool := decide (pn e % (2 ^ (9 * l) : Nat) ≠ 0)
/-- The address that a leaf makes. -/
def at_ (e : Int) (l : Nat) (addr : Int) : Int := pn e * 4096 + addr % (2 ^ (12 + 9 * l) : Nat)
/-- The place in a table. -/
def ix (addr : Int) (l : Nat) : Int := addr / (2 ^ (12 + 9 * l) : Nat) % 512
/-- What a walk comes to: a read that failed, a fault of the tables, a leaf and its level. -/
inductive Res where | bus (f t i : Int) | page | leaf (e : Int) (l : Nat)
def down (rd : Int → Int → Int × Int) (addr : Int) : Nat → Int → Res
  | 0, _ => .page
  | l + 1, t =>
    if (rd t (ix addr l)).2 ≠ 0 then .bus (rd t (ix addr l)).2 t (ix addr l) else if wrongB (rd t (ix addr l)).1 = true then .page
    else if ptr (rd t (ix addr l)).1 = true then down rd addr l (pn (rd t (ix addr l)).1) else if odd (rd t (ix addr l)).1 l = true then .page else .leaf (rd t (ix addr l)).1 l
/-- Does a leaf of the first stage let an access? -/
def lets1 (user sum mxr : Bool) (e a : Int) : Bool :=
  !((user && !bt e 4) || (!user && bt e 4 && (decide (a = 1) || !sum))) && bt e 6 && (if a = 1 then bt e 3 else if a = 2 then bt e 1 || (mxr && bt e 3) else if a = 3 then bt e 2 && bt e 7 else false)
/-- What a translation comes to: the physical and the guest-physical address, the fault, whether it was an entry's. -/
structure Place where
  pa : Int
  gpa : Int
  fault : Int
  walk : Bool
/-- Is a virtual address one of 39 bits, extended? -/
def canon (va : Int) : Bool := decide (va < 274877906944) || decide (18446743798831644672 ≤ va)
def firstOf (user sum mxr : Bool) (va a : Int) : Res → Place ⊕ Int
  | .bus f t i => .inl ⟨0, t * 4096 + 8 * i, f, true⟩
  | .page => .inl ⟨0, 0, 1, false⟩
  | .leaf e l => if lets1 user sum mxr e a = true then .inr (at_ e l va) else .inl ⟨0, 0, 1, false⟩
/-- The first stage's answer: a fault and where, or the guest-physical address. -/
def first (rd : Int → Int → Int × Int) (satp : Int) (user sum mxr : Bool) (va a : Int) : Place ⊕ Int :=
  if satp / 1152921504606846976 = 0 then .inr va else if satp / 1152921504606846976 ≠ 8 then .inl ⟨0, 0, 1, false⟩
  else if canon va = false then .inl ⟨0, 0, 1, false⟩ else firstOf user sum mxr va a (down rd va 3 (satp % 17592186044416))
end Go.Proofs.YtidiojhefjhojaaGreat.Tab
end
section
namespace Go.Proofs.YtidiojhefjhojaaGreat.Hart
open Go Go.RowKit Go.Proofs.YtidiojhefjhojaaGreat.Step Go.Proofs.YtidiojhefjhojaaGreat.Enc Go.Proofs.YtidiojhefjhojaaGreat.Kn
open Go.Proofs.YtidiojhefjhojaaGreat.Mem (Ram Grow hasB wholeB num wr)
set_option linter.unusedVariables false
set_option linter.unusedSimpArgs false
set_option maxRecDepth 100000
theorem aligned_b {W : World} {g : Nat} {s : Stp} {va c : Int} (hb : Blk W g (sc s) TS) (hf : Fit s.was) (hv : U64 va) (hz : 0 < s.sz ∧ s.sz ≤ 8) (hh : va % s.sz = 0) : Calls Tryz.prog 137 #[.pointer (some ⟨g, 0, none⟩), .int .u64 va, .int .u64 c] W fun e w' => e = .returned (.bool true) ∧ Below W.heap.size W w' := by
  have hv1 := hv.out
  have e0 : IntKind.u64.wrap s.sz = s.sz := IntWalk.u64_in _ (by omega)
  have e1 : Int.tmod va s.sz = va % s.sz := Int.tmod_eq_emod_of_nonneg hv1.1
  have e2 : (s.sz = 0) = False := eq_false (by omega)
  have e3 : (s.sz == 0) = false := beq_eq_false_iff_ne.2 (by omega)
  have e4 : (va % s.sz == 0) = true := beq_iff_eq.2 hh
  have HB := Lib.hid hb
  clear hf hv hb
  go_enter Tryz.func137, Tryz.ntmps137
  go_wp2_with (first
    | ((with_reducible refine Step.gate_load (t := 22) rfl ?_); refine Step.load HB.out rfl rfl rfl pl_u64 (sv_ok _ (by decide)) ?_; simp only [sv_dry, sv_now, sv_k, sv_fn, sv_rd, sv_rs1, sv_rs2, sv_imm, sv_sz, sv_sg, sv_long, sv_bits, sv_ek, sv_ea, sv_eva, sv_egpa, sv_ewalk, sv_ewrote, sv_was_pc, sv_was_user, sv_was_on, sv_was_spie, sv_was_spp, sv_was_sum, sv_was_mxr, sv_was_rsv, sv_was_stvec, sv_was_sscr, sv_was_sepc, sv_was_scause, sv_was_stval, sv_was_sie, sv_was_sip, sv_was_satp, sv_was_resv, sv_h_pc, sv_h_user, sv_h_on, sv_h_spie, sv_h_spp, sv_h_sum, sv_h_mxr, sv_h_rsv, sv_h_stvec, sv_h_sscr, sv_h_sepc, sv_h_scause, sv_h_stval, sv_h_sie, sv_h_sip, sv_h_satp, sv_h_resv, sv_c])
    | ((with_reducible refine Step.gate_load (t := 3) rfl ?_); refine Step.load HB.out rfl rfl rfl pl_int (sv_ok _ (by decide)) ?_; simp only [sv_dry, sv_now, sv_k, sv_fn, sv_rd, sv_rs1, sv_rs2, sv_imm, sv_sz, sv_sg, sv_long, sv_bits, sv_ek, sv_ea, sv_eva, sv_egpa, sv_ewalk, sv_ewrote, sv_was_pc, sv_was_user, sv_was_on, sv_was_spie, sv_was_spp, sv_was_sum, sv_was_mxr, sv_was_rsv, sv_was_stvec, sv_was_sscr, sv_was_sepc, sv_was_scause, sv_was_stval, sv_was_sie, sv_was_sip, sv_was_satp, sv_was_resv, sv_h_pc, sv_h_user, sv_h_on, sv_h_spie, sv_h_spp, sv_h_sum, sv_h_mxr, sv_h_rsv, sv_h_stvec, sv_h_sscr, sv_h_sepc, sv_h_scause, sv_h_stval, sv_h_sie, sv_h_sip, sv_h_satp, sv_h_resv, sv_c])
    | ((with_reducible refine Step.gate_load (t := 4) rfl ?_); refine Step.load HB.out rfl rfl rfl pl_bool (sv_ok _ (by decide)) ?_; simp only [sv_dry, sv_now, sv_k, sv_fn, sv_rd, sv_rs1, sv_rs2, sv_imm, sv_sz, sv_sg, sv_long, sv_bits, sv_ek, sv_ea, sv_eva, sv_egpa, sv_ewalk, sv_ewrote, sv_was_pc, sv_was_user, sv_was_on, sv_was_spie, sv_was_spp, sv_was_sum, sv_was_mxr, sv_was_rsv, sv_was_stvec, sv_was_sscr, sv_was_sepc, sv_was_scause, sv_was_stval, sv_was_sie, sv_was_sip, sv_was_satp, sv_was_resv, sv_h_pc, sv_h_user, sv_h_on, sv_h_spie, sv_h_spp, sv_h_sum, sv_h_mxr, sv_h_rsv, sv_h_stvec, sv_h_sscr, sv_h_sepc, sv_h_scause, sv_h_stval, sv_h_sie, sv_h_sip, sv_h_satp, sv_h_resv, sv_c]))
  go_ret
  exact ⟨rfl, Below.refl _ _⟩
set_option maxHeartbeats 4000000 in
theorem loads_in {W : World} {gs gm n : Nat} {s : Stp} {tv km : Value} {vmid base : Int} {mem : Nat → Int} {F G : Nat → Prop} {T : World → Prop} (h : Sy W gs s gm tv 0 vmid km base n mem F G T) (hfw : Fit s.was) (hs : s.was.satp / 1152921504606846976 = 0) (hs0 : U64 s.was.satp) {nd : Nat} (hr : s.rd = nd) (hn : nd < 32) {n1 : Nat} (hr1 : s.rs1 = n1) (hn1 : n1 < 32) {k : Nat} (hz : s.sz = k) (hw : wholeB k = true) (va : Int) (eva : va = addW (s.was.x n1) (immP s)) (hva : U64 va) (hal : va % s.sz = 0) (hh : hasB base n va k = true) (hnum : U64 (num mem (va - base).toNat k)) : Calls Tryz.prog 76 #[.pointer (some ⟨gs, 0, none⟩)] W fun e w' => e = .returned (.tuple #[]) ∧ Blk w' gs (sc (rdP s nd (extV (num mem (va - base).toNat k) k s.sg))) TS ∧ Mod (One gs) W w' := by
  have zk := of_decide_eq_true hw
  have zk2 : s.sz = (k : Int) := hz
  have TX := Lib.hid (fun (W' : World) (b : Below W.heap.size W W') => x_any (h.below b).step hr1 hn1)
  have TI := Lib.hid (fun (W' : World) (b : Below W.heap.size W W') => imm_any (h.below b).step)
  have e0 : IntKind.u64.wrap (s.was.x n1 + immP s) = va := eva.symm
  clear eva
  have TL := Lib.hid (fun (W' : World) (b : Below W.heap.size W W') c => aligned_b (c := c) (h.below b).step hfw (va := va) hva ⟨by omega, by omega⟩ hal)
  have TD := Lib.hid (fun (W' : World) (b : Below W.heap.size W W') => load_yes (h.below b) hs hs0 (z := (k : Int)) rfl hva hw hh 2)
  have TE := Lib.hid (extend_any hnum (k : Int) s.sg)
  have T0 := Lib.hid (fun (W' : World) (hb : Blk W' gs (sc s) TS) v => rd_any hb hr hn v)
  generalize num mem (va - base).toNat k = nv at *
  have HY := Lib.hid h
  have HB := Lib.hid (Below.refl _ _ : Below W.heap.size W W)
  clear h hs hs0 hfw hr1 hn1 hr hn hva hw hal hh zk zk2 hnum
  go_enter Tryz.func76, Tryz.ntmps76
  go_wp2_with (first
    | (go_at_call 134; (with_reducible refine (TX.out _ HB.out).mono ?_); rintro e w' ⟨rfl, hb⟩; replace HB := Lib.hid (below_below HB.out hb); clear hb)
    | (go_at_call 132; (with_reducible refine (TI.out _ HB.out).mono ?_); rintro e w' ⟨rfl, hb⟩; replace HB := Lib.hid (below_below HB.out hb); clear hb)
    | (go_at_call 137; (with_reducible refine (TL.out _ HB.out _).mono ?_); rintro e w' ⟨rfl, hb⟩; replace HB := Lib.hid (below_below HB.out hb); clear hb)
    | (go_at_call 92; (with_reducible refine (TD.out _ HB.out).mono ?_); rintro e w' ⟨rfl, hb⟩; replace HB := Lib.hid (below_below HB.out hb); clear hb)
    | ((with_reducible refine Sq.region (id := 4) (I := fun X => Below W.heap.size W X) ?hm2 13 ?hi2 ?hp2 ?hs2); (case hm2 => rfl); (case hi2 => exact HB.out.drew); (case hp2 => kernel_rfl); intro ops K hops hK; clear hops; dsimp only [List.take]; (repeat (first | (refine Sq.seq_move rfl rfl ?_; simp only [Act.put, Act.eval, Array.getD_eq_getD_getElem?, List.getElem?_toArray, List.getElem?_cons_zero, List.getElem?_cons_succ, Option.getD_some, List.setIfInBounds_toArray, List.set_cons_zero, List.set_cons_succ, hz]) | (refine Sq.seq_check rfl rfl rfl ?_; simp only [Act.put, Act.eval, Array.getD_eq_getD_getElem?, List.getElem?_toArray, List.getElem?_cons_zero, List.getElem?_cons_succ, Option.getD_some, List.setIfInBounds_toArray, List.set_cons_zero, List.set_cons_succ, hz]) | (refine Sq.seq_load (t := 22) (fun X hX => (HY.out.below hX).step) (Sq.wanted_none rfl) rfl rfl pl_u64 (sv_ok _ (by decide)) ?_; simp only [Act.put, Act.eval, Array.getD_eq_getD_getElem?, List.getElem?_toArray, List.getElem?_cons_zero, List.getElem?_cons_succ, Option.getD_some, List.setIfInBounds_toArray, List.set_cons_zero, List.set_cons_succ, sv_dry, sv_now, sv_k, sv_fn, sv_rd, sv_rs1, sv_rs2, sv_imm, sv_sz, sv_sg, sv_long, sv_bits, sv_ek, sv_ea, sv_eva, sv_egpa, sv_ewalk, sv_ewrote, sv_was_pc, sv_was_user, sv_was_on, sv_was_spie, sv_was_spp, sv_was_sum, sv_was_mxr, sv_was_rsv, sv_was_stvec, sv_was_sscr, sv_was_sepc, sv_was_scause, sv_was_stval, sv_was_sie, sv_was_sip, sv_was_satp, sv_was_resv, sv_h_pc, sv_h_user, sv_h_on, sv_h_spie, sv_h_spp, sv_h_sum, sv_h_mxr, sv_h_rsv, sv_h_stvec, sv_h_sscr, sv_h_sepc, sv_h_scause, sv_h_stval, sv_h_sie, sv_h_sip, sv_h_satp, sv_h_resv, sv_c, hz]) | (refine Sq.seq_load (t := 3) (fun X hX => (HY.out.below hX).step) (Sq.wanted_none rfl) rfl rfl pl_int (sv_ok _ (by decide)) ?_; simp only [Act.put, Act.eval, Array.getD_eq_getD_getElem?, List.getElem?_toArray, List.getElem?_cons_zero, List.getElem?_cons_succ, Option.getD_some, List.setIfInBounds_toArray, List.set_cons_zero, List.set_cons_succ, sv_dry, sv_now, sv_k, sv_fn, sv_rd, sv_rs1, sv_rs2, sv_imm, sv_sz, sv_sg, sv_long, sv_bits, sv_ek, sv_ea, sv_eva, sv_egpa, sv_ewalk, sv_ewrote, sv_was_pc, sv_was_user, sv_was_on, sv_was_spie, sv_was_spp, sv_was_sum, sv_was_mxr, sv_was_rsv, sv_was_stvec, sv_was_sscr, sv_was_sepc, sv_was_scause, sv_was_stval, sv_was_sie, sv_was_sip, sv_was_satp, sv_was_resv, sv_h_pc, sv_h_user, sv_h_on, sv_h_spie, sv_h_spp, sv_h_sum, sv_h_mxr, sv_h_rsv, sv_h_stvec, sv_h_sscr, sv_h_sepc, sv_h_scause, sv_h_stval, sv_h_sie, sv_h_sip, sv_h_satp, sv_h_resv, sv_c, hz]) | (refine Sq.seq_load (t := 4) (fun X hX => (HY.out.below hX).step) (Sq.wanted_none rfl) rfl rfl pl_bool (sv_ok _ (by decide)) ?_; simp only [Act.put, Act.eval, Array.getD_eq_getD_getElem?, List.getElem?_toArray, List.getElem?_cons_zero, List.getElem?_cons_succ, Option.getD_some, List.setIfInBounds_toArray, List.set_cons_zero, List.set_cons_succ, sv_dry, sv_now, sv_k, sv_fn, sv_rd, sv_rs1, sv_rs2, sv_imm, sv_sz, sv_sg, sv_long, sv_bits, sv_ek, sv_ea, sv_eva, sv_egpa, sv_ewalk, sv_ewrote, sv_was_pc, sv_was_user, sv_was_on, sv_was_spie, sv_was_spp, sv_was_sum, sv_was_mxr, sv_was_rsv, sv_was_stvec, sv_was_sscr, sv_was_sepc, sv_was_scause, sv_was_stval, sv_was_sie, sv_was_sip, sv_was_satp, sv_was_resv, sv_h_pc, sv_h_user, sv_h_on, sv_h_spie, sv_h_spp, sv_h_sum, sv_h_mxr, sv_h_rsv, sv_h_stvec, sv_h_sscr, sv_h_sepc, sv_h_scause, sv_h_stval, sv_h_sie, sv_h_sip, sv_h_satp, sv_h_resv, sv_c, hz]) | (refine Sq.seq_load (t := 51) (fun X hX => (HY.out.below hX).step) (Sq.wanted_none rfl) rfl rfl pl_pc (sv_ok _ (by decide)) ?_; simp only [Act.put, Act.eval, Array.getD_eq_getD_getElem?, List.getElem?_toArray, List.getElem?_cons_zero, List.getElem?_cons_succ, Option.getD_some, List.setIfInBounds_toArray, List.set_cons_zero, List.set_cons_succ, sv_c]) | (refine Sq.seq_load (t := 30) (fun X hX => (HY.out.below hX).mc.core) (Sq.wanted_none rfl) rfl rfl pl_pm cc_m ?_; simp only [Act.put, Act.eval, Array.getD_eq_getD_getElem?, List.getElem?_toArray, List.getElem?_cons_zero, List.getElem?_cons_succ, Option.getD_some, List.setIfInBounds_toArray, List.set_cons_zero, List.set_cons_succ]) | (refine Sq.seq_call 23 rfl (Sq.wanted_none rfl) (fun X => ?_) (fun X hX => (TE.out X).mono fun e w' h => ⟨h.1, below_below hX h.2⟩) ?_; (focus (first | (go_simp; done) | (go_simp; rfl))); simp only [Act.put, Act.eval, Array.getD_eq_getD_getElem?, List.getElem?_toArray, List.getElem?_cons_zero, List.getElem?_cons_succ, Option.getD_some, List.setIfInBounds_toArray, List.set_cons_zero, List.set_cons_succ]) | (refine' Sq.seq_pure rfl (fun X => _) _; rotate_left; (first | (go_simp; done) | (go_simp; rfl)); simp only [Act.put, Act.eval, Array.getD_eq_getD_getElem?, List.getElem?_toArray, List.getElem?_cons_zero, List.getElem?_cons_succ, Option.getD_some, List.setIfInBounds_toArray, List.set_cons_zero, List.set_cons_succ]))); refine Sq.seq_nil ?_; refine hK.out _ fun w1 hk => ?_; clear hK; replace HB := Lib.hid hk; clear hk; dsimp only [List.drop])
    | (go_at_call 131; (with_reducible refine (T0.out _ (HY.out.below HB.out).step _).mono ?_); rintro e w' ⟨rfl, nb, m⟩; have NB := Lib.hid nb; have NM := Lib.hid ((Mod.of_below HB.out _).trans m); clear nb m)
    | ((with_reducible refine Step.gate_load (t := 22) rfl ?_); refine Step.load (HY.out.below HB.out).step rfl rfl rfl pl_u64 (sv_ok _ (by decide)) ?_; simp only [sv_dry, sv_now, sv_k, sv_fn, sv_rd, sv_rs1, sv_rs2, sv_imm, sv_sz, sv_sg, sv_long, sv_bits, sv_ek, sv_ea, sv_eva, sv_egpa, sv_ewalk, sv_ewrote, sv_was_pc, sv_was_user, sv_was_on, sv_was_spie, sv_was_spp, sv_was_sum, sv_was_mxr, sv_was_rsv, sv_was_stvec, sv_was_sscr, sv_was_sepc, sv_was_scause, sv_was_stval, sv_was_sie, sv_was_sip, sv_was_satp, sv_was_resv, sv_h_pc, sv_h_user, sv_h_on, sv_h_spie, sv_h_spp, sv_h_sum, sv_h_mxr, sv_h_rsv, sv_h_stvec, sv_h_sscr, sv_h_sepc, sv_h_scause, sv_h_stval, sv_h_sie, sv_h_sip, sv_h_satp, sv_h_resv, sv_c, hz])
    | ((with_reducible refine Step.gate_load (t := 3) rfl ?_); refine Step.load (HY.out.below HB.out).step rfl rfl rfl pl_int (sv_ok _ (by decide)) ?_; simp only [sv_dry, sv_now, sv_k, sv_fn, sv_rd, sv_rs1, sv_rs2, sv_imm, sv_sz, sv_sg, sv_long, sv_bits, sv_ek, sv_ea, sv_eva, sv_egpa, sv_ewalk, sv_ewrote, sv_was_pc, sv_was_user, sv_was_on, sv_was_spie, sv_was_spp, sv_was_sum, sv_was_mxr, sv_was_rsv, sv_was_stvec, sv_was_sscr, sv_was_sepc, sv_was_scause, sv_was_stval, sv_was_sie, sv_was_sip, sv_was_satp, sv_was_resv, sv_h_pc, sv_h_user, sv_h_on, sv_h_spie, sv_h_spp, sv_h_sum, sv_h_mxr, sv_h_rsv, sv_h_stvec, sv_h_sscr, sv_h_sepc, sv_h_scause, sv_h_stval, sv_h_sie, sv_h_sip, sv_h_satp, sv_h_resv, sv_c, hz])
    | ((with_reducible refine Step.gate_load (t := 4) rfl ?_); refine Step.load (HY.out.below HB.out).step rfl rfl rfl pl_bool (sv_ok _ (by decide)) ?_; simp only [sv_dry, sv_now, sv_k, sv_fn, sv_rd, sv_rs1, sv_rs2, sv_imm, sv_sz, sv_sg, sv_long, sv_bits, sv_ek, sv_ea, sv_eva, sv_egpa, sv_ewalk, sv_ewrote, sv_was_pc, sv_was_user, sv_was_on, sv_was_spie, sv_was_spp, sv_was_sum, sv_was_mxr, sv_was_rsv, sv_was_stvec, sv_was_sscr, sv_was_sepc, sv_was_scause, sv_was_stval, sv_was_sie, sv_was_sip, sv_was_satp, sv_was_resv, sv_h_pc, sv_h_user, sv_h_on, sv_h_spie, sv_h_spp, sv_h_sum, sv_h_mxr, sv_h_rsv, sv_h_stvec, sv_h_sscr, sv_h_sepc, sv_h_scause, sv_h_stval, sv_h_sie, sv_h_sip, sv_h_satp, sv_h_resv, sv_c, hz])
    | ((with_reducible refine Step.gate_load (t := 51) rfl ?_); refine Step.load (HY.out.below HB.out).step rfl rfl rfl pl_pc (sv_ok _ (by decide)) ?_; simp only [sv_c])
    | ((with_reducible refine Step.gate_load (t := 30) rfl ?_); refine Step.load (HY.out.below HB.out).mc.core rfl rfl rfl pl_pm cc_m ?_))
  all_goals (first | go_ret | go_end0 | refine bodyPost_ret (results_none rfl _ _ _) rfl ?_)
  exact ⟨rfl, NB.out, NM.out⟩
set_option maxHeartbeats 4000000 in
theorem stores_in {W : World} {gs gm n : Nat} {s : Stp} {tv km : Value} {vmid base : Int} {mem : Nat → Int} {F G : Nat → Prop} {T : World → Prop} (h : Sy W gs s gm tv 0 vmid km base n mem F G T) (hfw : Fit s.was) (hs : s.was.satp / 1152921504606846976 = 0) (hs0 : U64 s.was.satp) {n1 : Nat} (hr1 : s.rs1 = n1) (hn1 : n1 < 32) {n2 : Nat} (hr2 : s.rs2 = n2) (hn2 : n2 < 32) {k : Nat} (hz : s.sz = k) (hw : wholeB k = true) (hdry : s.dry = false) (hx : ∀ i, i < 32 → U64 (s.was.x i)) (va : Int) (eva : va = addW (s.was.x n1) (immP s)) (hva : U64 va) (hal : va % s.sz = 0) (hh : hasB base n va k = true) : Calls Tryz.prog 77 #[.pointer (some ⟨gs, 0, none⟩)] W fun e w' => e = .returned (.tuple #[]) ∧ Out W w' gs (storeP s va) gm tv 0 vmid km base n (wr mem (va - base).toNat k (s.was.x n2)) F G T := by
  have zk := of_decide_eq_true hw
  have zk2 : s.sz = (k : Int) := hz
  have TX := Lib.hid (fun (W' : World) (b : Below W.heap.size W W') => x_any (h.below b).step hr1 hn1)
  have TY := Lib.hid (fun (W' : World) (b : Below W.heap.size W W') => y_any (h.below b).step hr2 hn2)
  have TI := Lib.hid (fun (W' : World) (b : Below W.heap.size W W') => imm_any (h.below b).step)
  have e0 : IntKind.u64.wrap (s.was.x n1 + immP s) = va := eva.symm
  clear eva
  have TL := Lib.hid (fun (W' : World) (b : Below W.heap.size W W') c => aligned_b (c := c) (h.below b).step hfw (va := va) hva ⟨by omega, by omega⟩ hal)
  have TR := Lib.hid (fun (W' : World) (b : Below W.heap.size W W') => reach_true (h.below b).step (h.below b).mc.core (h.below b).ne (h.below b).mc.ram (h.below b).nF hs hs0 hva (size := (k : Int)) (by omega) hh 3)
  have TS_ := Lib.hid (fun (W' : World) (b : Below W.heap.size W W') => store_any (h.below b) hdry hz (gpa := va) hva (hx n2 hn2) hw hh)
  have HY := Lib.hid h
  have HB := Lib.hid (Below.refl _ _ : Below W.heap.size W W)
  clear h hs hs0 hfw hr1 hn1 hr2 hn2 hva hw hal hh zk zk2 hdry hx
  go_enter Tryz.func77, Tryz.ntmps77
  go_wp2_with (first
    | (go_at_call 134; (with_reducible refine (TX.out _ HB.out).mono ?_); rintro e w' ⟨rfl, hb⟩; replace HB := Lib.hid (below_below HB.out hb); clear hb)
    | (go_at_call 132; (with_reducible refine (TI.out _ HB.out).mono ?_); rintro e w' ⟨rfl, hb⟩; replace HB := Lib.hid (below_below HB.out hb); clear hb)
    | (go_at_call 136; (with_reducible refine (TY.out _ HB.out).mono ?_); rintro e w' ⟨rfl, hb⟩; replace HB := Lib.hid (below_below HB.out hb); clear hb)
    | (go_at_call 137; (with_reducible refine (TL.out _ HB.out _).mono ?_); rintro e w' ⟨rfl, hb⟩; replace HB := Lib.hid (below_below HB.out hb); clear hb)
    | (go_at_call 138; (with_reducible refine (TR.out _ HB.out).mono ?_); rintro e w' ⟨rfl, hb⟩; replace HB := Lib.hid (below_below HB.out hb); clear hb)
    | (go_at_call 139; (with_reducible refine (TS_.out _ HB.out).mono ?_); rintro e w' ⟨rfl, ho⟩; have HO := Lib.hid (ho.ahead HB.out); clear ho)
    | ((with_reducible refine Step.gate_load (t := 22) rfl ?_); refine Step.load (HY.out.below HB.out).step rfl rfl rfl pl_u64 (sv_ok _ (by decide)) ?_; simp only [sv_dry, sv_now, sv_k, sv_fn, sv_rd, sv_rs1, sv_rs2, sv_imm, sv_sz, sv_sg, sv_long, sv_bits, sv_ek, sv_ea, sv_eva, sv_egpa, sv_ewalk, sv_ewrote, sv_was_pc, sv_was_user, sv_was_on, sv_was_spie, sv_was_spp, sv_was_sum, sv_was_mxr, sv_was_rsv, sv_was_stvec, sv_was_sscr, sv_was_sepc, sv_was_scause, sv_was_stval, sv_was_sie, sv_was_sip, sv_was_satp, sv_was_resv, sv_h_pc, sv_h_user, sv_h_on, sv_h_spie, sv_h_spp, sv_h_sum, sv_h_mxr, sv_h_rsv, sv_h_stvec, sv_h_sscr, sv_h_sepc, sv_h_scause, sv_h_stval, sv_h_sie, sv_h_sip, sv_h_satp, sv_h_resv, sv_c, hz])
    | ((with_reducible refine Step.gate_load (t := 3) rfl ?_); refine Step.load (HY.out.below HB.out).step rfl rfl rfl pl_int (sv_ok _ (by decide)) ?_; simp only [sv_dry, sv_now, sv_k, sv_fn, sv_rd, sv_rs1, sv_rs2, sv_imm, sv_sz, sv_sg, sv_long, sv_bits, sv_ek, sv_ea, sv_eva, sv_egpa, sv_ewalk, sv_ewrote, sv_was_pc, sv_was_user, sv_was_on, sv_was_spie, sv_was_spp, sv_was_sum, sv_was_mxr, sv_was_rsv, sv_was_stvec, sv_was_sscr, sv_was_sepc, sv_was_scause, sv_was_stval, sv_was_sie, sv_was_sip, sv_was_satp, sv_was_resv, sv_h_pc, sv_h_user, sv_h_on, sv_h_spie, sv_h_spp, sv_h_sum, sv_h_mxr, sv_h_rsv, sv_h_stvec, sv_h_sscr, sv_h_sepc, sv_h_scause, sv_h_stval, sv_h_sie, sv_h_sip, sv_h_satp, sv_h_resv, sv_c, hz])
    | ((with_reducible refine Step.gate_load (t := 4) rfl ?_); refine Step.load (HY.out.below HB.out).step rfl rfl rfl pl_bool (sv_ok _ (by decide)) ?_; simp only [sv_dry, sv_now, sv_k, sv_fn, sv_rd, sv_rs1, sv_rs2, sv_imm, sv_sz, sv_sg, sv_long, sv_bits, sv_ek, sv_ea, sv_eva, sv_egpa, sv_ewalk, sv_ewrote, sv_was_pc, sv_was_user, sv_was_on, sv_was_spie, sv_was_spp, sv_was_sum, sv_was_mxr, sv_was_rsv, sv_was_stvec, sv_was_sscr, sv_was_sepc, sv_was_scause, sv_was_stval, sv_was_sie, sv_was_sip, sv_was_satp, sv_was_resv, sv_h_pc, sv_h_user, sv_h_on, sv_h_spie, sv_h_spp, sv_h_sum, sv_h_mxr, sv_h_rsv, sv_h_stvec, sv_h_sscr, sv_h_sepc, sv_h_scause, sv_h_stval, sv_h_sie, sv_h_sip, sv_h_satp, sv_h_resv, sv_c, hz])
    | ((with_reducible refine Step.gate_load (t := 51) rfl ?_); refine Step.load (HY.out.below HB.out).step rfl rfl rfl pl_pc (sv_ok _ (by decide)) ?_; simp only [sv_c])
    | ((with_reducible refine Step.gate_load (t := 30) rfl ?_); refine Step.load (HY.out.below HB.out).mc.core rfl rfl rfl pl_pm cc_m ?_))
  all_goals (first | go_ret | go_end0 | refine bodyPost_ret (results_none rfl _ _ _) rfl ?_)
  exact ⟨rfl, HO.out⟩
theorem Out.step {W w' : World} {gs gm n : Nat} {s' : Stp} {tv km : Value} {root vmid base : Int} {mem' : Nat → Int} {F G : Nat → Prop} {T : World → Prop} (h : Out W w' gs s' gm tv root vmid km base n mem' F G T) : Blk w' gs (sc s') TS := by obtain ⟨F', a, _⟩ := h; exact a.step
theorem u16_and_nat (a b : Nat) (ha : a < 65536) (hb : b < 65536) : bits .and .u16 (a : Int) (b : Int) = ((a &&& b : Nat) : Int) := by
  have hx : a &&& b < 2 ^ 16 := Nat.and_lt_two_pow _ (by omega)
  show IntKind.u16.wrap ((BitVec.ofInt 16 (a : Int) &&& BitVec.ofInt 16 (b : Int)).toNat : Int) = _
  rw [BitVec.toNat_and, BitVec.ofInt_natCast, BitVec.ofInt_natCast, BitVec.toNat_ofNat, BitVec.toNat_ofNat, Nat.mod_eq_of_lt (by omega), Nat.mod_eq_of_lt (by omega)]
  show (_ : Int) % 65536 = _
  omega
theorem u16_mask3 {c : Int} (h : 0 ≤ c ∧ c < 65536) : bits .and .u16 c 3 = c % 4 := by
  obtain ⟨n, rfl⟩ := Int.eq_ofNat_of_zero_le h.1
  have := u16_and_nat n 3 (by omega) (by decide)
  rw [show ((3 : Nat) : Int) = 3 from rfl] at this
  rw [this, show n &&& 3 = n % 4 from Nat.and_two_pow_sub_one_eq_mod n 2]
  omega
theorem size_any (c : Int) (h0 : 0 ≤ c ∧ c < 65536) (w : World) : Calls Tryz.prog 19 #[.int .u16 c] w fun e w' => e = .returned (.int .i64 (if c % 4 = 3 then 4 else 2)) ∧ Below w.heap.size w w' := by
  have hm : bits .and .u16 c 3 = c % 4 := u16_mask3 h0
  by_cases h : c % 4 = 3
  · rw [if_pos h]
    rw [h] at hm
    clear h h0
    go_enter Tryz.func19, Tryz.ntmps19
    have HB := Lib.hid (Below.refl _ _ : Below w.heap.size w w)
    go_wp2
    go_ret
    exact ⟨rfl, HB.out⟩
  · rw [if_neg h]
    have hm' : (bits .and .u16 c 3 == 3) = false := by rw [hm]; exact beq_eq_false_iff_ne.2 h
    clear hm h h0
    go_enter Tryz.func19, Tryz.ntmps19
    have HB := Lib.hid (Below.refl _ _ : Below w.heap.size w w)
    go_wp2
    go_ret
    exact ⟨rfl, HB.out⟩
set_option maxHeartbeats 8000000 in
theorem fetch_4 {W : World} {gs gm n : Nat} {s : Stp} {tv km : Value} {vmid base : Int} {mem : Nat → Int} {F G : Nat → Prop} {T : World → Prop} (h : Sy W gs s gm tv 0 vmid km base n mem F G T) (hs : s.was.satp / 1152921504606846976 = 0) (hs0 : U64 s.was.satp) (hpc : 0 ≤ s.was.pc ∧ s.was.pc + 2 < 18446744073709551616) (h1 : hasB base n s.was.pc 2 = true) (h2 : hasB base n (s.was.pc + 2) 2 = true) (lo hi : Int) (elo : num mem (s.was.pc - base).toNat 2 = lo) (ehi : num mem (s.was.pc + 2 - base).toNat 2 = hi) (hlo : 0 ≤ lo ∧ lo < 65536) (hhi : 0 ≤ hi ∧ hi < 65536) (h4 : lo % 4 = 3) :
    Calls Tryz.prog 46 #[.pointer (some ⟨gs, 0, none⟩)] W fun e w' => e = .returned (.tuple #[.int .u32 (hi * 65536 + lo), .bool true]) ∧ Blk w' gs (sc ({ s with bits := hi * 65536 + lo, long := 4 })) TS ∧ Mod (One gs) W w' := by
  have T1 := Lib.hid (fun (W' : World) (s' : Stp) (y : Sy W' gs s' gm tv 0 vmid km base n mem F G T) (e : s'.was = s.was) => load_yes y (by rw [e]; exact hs) (by rw [e]; exact hs0) (va := s.was.pc) (z := 2) (k := 2) rfl ⟨by omega, by omega⟩ (by decide) h1 1)
  have T2 := Lib.hid (fun (W' : World) (s' : Stp) (y : Sy W' gs s' gm tv 0 vmid km base n mem F G T) (e : s'.was = s.was) => load_yes y (by rw [e]; exact hs) (by rw [e]; exact hs0) (va := s.was.pc + 2) (z := 2) (k := 2) rfl ⟨by omega, by omega⟩ (by decide) h2 1)
  rw [elo] at T1
  rw [ehi] at T2
  have TZ := Lib.hid (size_any lo hlo)
  rw [if_pos h4] at TZ
  have e1 : IntKind.u64.wrap (s.was.pc + 2) = s.was.pc + 2 := IntWalk.u64_in _ (by omega)
  have e2 : lo % 65536 = lo := by omega
  have e3 : IntKind.u64.wrap (hi * 65536) = hi * 65536 := IntWalk.u64_in _ (by omega)
  have e4 : bits .or .u64 (hi * 65536) lo = hi * 65536 + lo := Tab.or_add 16 ⟨by omega, by omega⟩ (by omega) ⟨by omega, by omega⟩ (by omega)
  have e5 : (hi * 65536 + lo) % 4294967296 = hi * 65536 + lo := by omega
  have HO := Lib.hid h
  have HM := Lib.hid (Mod.refl (One gs) W)
  clear h hs hs0 h1 h2 elo ehi hlo hhi h4 hpc
  go_enter Tryz.func46, Tryz.ntmps46
  go_wp2_with (first
    | (go_at_call 92; (with_reducible refine (T1.out _ _ HO.out rfl).mono ?_); rintro e w' ⟨rfl, hb⟩; replace HO := Lib.hid (HO.out.below hb); replace HM := Lib.hid (HM.out.trans (Mod.of_below hb _)); clear hb)
    | (go_at_call 92; (with_reducible refine (T2.out _ _ HO.out rfl).mono ?_); rintro e w' ⟨rfl, hb⟩; replace HO := Lib.hid (HO.out.below hb); replace HM := Lib.hid (HM.out.trans (Mod.of_below hb _)); clear hb)
    | (go_at_call 19; (with_reducible refine (TZ.out _).mono ?_); rintro e w' ⟨rfl, hb⟩; replace HO := Lib.hid (HO.out.below hb); replace HM := Lib.hid (HM.out.trans (Mod.of_below hb _)); clear hb)
    | ((with_reducible refine Step.gate_store (t := 22) rfl ?_); refine Step.store HO.out.step rfl rfl rfl rfl rfl pl_u64 rfl rfl ?_; intro w3 nb m; simp [go_sem, sst_dry, sst_now, sst_k, sst_fn, sst_rd, sst_rs1, sst_rs2, sst_imm, sst_sz, sst_sg, sst_long, sst_bits, sst_ek, sst_ea, sst_eva, sst_egpa, sst_ewalk, sst_ewrote, sst_h_pc, sst_h_user, sst_h_on, sst_h_spie, sst_h_spp, sst_h_sum, sst_h_mxr, sst_h_rsv, sst_h_stvec, sst_h_sscr, sst_h_sepc, sst_h_scause, sst_h_stval, sst_h_sie, sst_h_sip, sst_h_satp, sst_h_resv, sst_h_x0] at nb; replace HO := Lib.hid (HO.out.set nb m rfl); replace HM := Lib.hid (HM.out.trans m); clear nb m)
    | ((with_reducible refine Step.gate_load (t := 22) rfl ?_); refine Step.load HO.out.step rfl rfl rfl pl_u64 (sv_ok _ (by decide)) ?_; simp only [sv_dry, sv_now, sv_k, sv_fn, sv_rd, sv_rs1, sv_rs2, sv_imm, sv_sz, sv_sg, sv_long, sv_bits, sv_ek, sv_ea, sv_eva, sv_egpa, sv_ewalk, sv_ewrote, sv_was_pc, sv_was_user, sv_was_on, sv_was_spie, sv_was_spp, sv_was_sum, sv_was_mxr, sv_was_rsv, sv_was_stvec, sv_was_sscr, sv_was_sepc, sv_was_scause, sv_was_stval, sv_was_sie, sv_was_sip, sv_was_satp, sv_was_resv, sv_h_pc, sv_h_user, sv_h_on, sv_h_spie, sv_h_spp, sv_h_sum, sv_h_mxr, sv_h_rsv, sv_h_stvec, sv_h_sscr, sv_h_sepc, sv_h_scause, sv_h_stval, sv_h_sie, sv_h_sip, sv_h_satp, sv_h_resv, sv_c])
    | ((with_reducible refine Step.gate_load (t := 3) rfl ?_); refine Step.load HO.out.step rfl rfl rfl pl_int (sv_ok _ (by decide)) ?_; simp only [sv_dry, sv_now, sv_k, sv_fn, sv_rd, sv_rs1, sv_rs2, sv_imm, sv_sz, sv_sg, sv_long, sv_bits, sv_ek, sv_ea, sv_eva, sv_egpa, sv_ewalk, sv_ewrote, sv_was_pc, sv_was_user, sv_was_on, sv_was_spie, sv_was_spp, sv_was_sum, sv_was_mxr, sv_was_rsv, sv_was_stvec, sv_was_sscr, sv_was_sepc, sv_was_scause, sv_was_stval, sv_was_sie, sv_was_sip, sv_was_satp, sv_was_resv, sv_h_pc, sv_h_user, sv_h_on, sv_h_spie, sv_h_spp, sv_h_sum, sv_h_mxr, sv_h_rsv, sv_h_stvec, sv_h_sscr, sv_h_sepc, sv_h_scause, sv_h_stval, sv_h_sie, sv_h_sip, sv_h_satp, sv_h_resv, sv_c])
    | ((with_reducible refine Step.gate_load (t := 4) rfl ?_); refine Step.load HO.out.step rfl rfl rfl pl_bool (sv_ok _ (by decide)) ?_; simp only [sv_dry, sv_now, sv_k, sv_fn, sv_rd, sv_rs1, sv_rs2, sv_imm, sv_sz, sv_sg, sv_long, sv_bits, sv_ek, sv_ea, sv_eva, sv_egpa, sv_ewalk, sv_ewrote, sv_was_pc, sv_was_user, sv_was_on, sv_was_spie, sv_was_spp, sv_was_sum, sv_was_mxr, sv_was_rsv, sv_was_stvec, sv_was_sscr, sv_was_sepc, sv_was_scause, sv_was_stval, sv_was_sie, sv_was_sip, sv_was_satp, sv_was_resv, sv_h_pc, sv_h_user, sv_h_on, sv_h_spie, sv_h_spp, sv_h_sum, sv_h_mxr, sv_h_rsv, sv_h_stvec, sv_h_sscr, sv_h_sepc, sv_h_scause, sv_h_stval, sv_h_sie, sv_h_sip, sv_h_satp, sv_h_resv, sv_c]))
  refine bodyPost_ret (results_tmp2 rfl _ _ _) rfl ?_
  exact ⟨rfl, HO.out.step, HM.out⟩
end Go.Proofs.YtidiojhefjhojaaGreat.Hart
end
