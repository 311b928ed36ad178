/- Parts of the walks and laws for the claim: Bits, OpA, WdB, OpB, DecB, DecD; no conditions beyond the theorems' own. -/
import Derived.BigQuiet
import Derived.Deep.RegionHeld3
import Derived.KernelRfl
import Derived.Laws.BitsAllLaws
import Derived.Laws.BitsLemmas
import Derived.Lib.Hide
import Derived.OpenShut
import Derived.RowKit3
import Derived.Test.YthkodjkkcgdmfaaGreatProg
import Derived.WalkKit
import Derived.Test.YthkodjkkcgdmfaaGreatT2
import Derived.Test.YthkodjkkcgdmfaaGreatT3
import Derived.Test.YthkodjkkcgdmfaaGreatT4
import Derived.Test.YthkodjkkcgdmfaaGreatT5
import Derived.Test.YthkodjkkcgdmfaaGreatT6
import Derived.Test.YthkodjkkcgdmfaaGreatT7
import Derived.Test.YthkodjkkcgdmfaaGreatT10
import Derived.Test.YthkodjkkcgdmfaaGreatT11
import Derived.Test.YthkodjkkcgdmfaaGreatT12
import Derived.Test.YthkodjkkcgdmfaaGreatT13
import Derived.Test.YthkodjkkcgdmfaaGreatT14
section
namespace Go.Proofs.YthkodjkkcgdmfaaGreat.Enc
open Go Go.RowKit
set_option linter.unusedVariables false
set_option linter.unusedSimpArgs false
set_option maxRecDepth 100000
theorem rawB_bd (a : Int) : 0 ≤ rawB a ∧ rawB a < (2 ^ 13 : Nat) := by
  unfold rawB
  have b0 := fd_bd a 31 31
  have b1 := fd_bd a 7 7
  have b2 := fd_bd a 30 25
  have b3 := fd_bd a 11 8
  simp only [Nat.reduceSub, Nat.reduceAdd, Nat.reducePow] at *
  omega
theorem rawJ_bd (a : Int) : 0 ≤ rawJ a ∧ rawJ a < (2 ^ 21 : Nat) := by
  unfold rawJ
  have b0 := fd_bd a 31 31
  have b1 := fd_bd a 19 12
  have b2 := fd_bd a 20 20
  have b3 := fd_bd a 30 21
  simp only [Nat.reduceSub, Nat.reduceAdd, Nat.reducePow] at *
  omega
set_option maxHeartbeats 1000000 in
theorem b_any (a : Int) (ha : W32 a) (w : World) : Calls Tryz.prog 165 #[.int .u32 a] w fun e w' => e = .returned (.int .i64 (immB a)) ∧ ∃ k, w' = w.drewN k := by
  have T0 := bits_any a 31 31 31 31 ha rfl rfl (by decide) (by decide)
  have T1 := bits_any a 7 7 7 7 ha rfl rfl (by decide) (by decide)
  have T2 := bits_any a 30 25 30 25 ha rfl rfl (by decide) (by decide)
  have T3 := bits_any a 11 8 11 8 ha rfl rfl (by decide) (by decide)
  have b0 := fd_bd a 31 31
  have b1 := fd_bd a 7 7
  have b2 := fd_bd a 30 25
  have b3 := fd_bd a 11 8
  have rb := rawB_bd a
  have S := signed_any (rawB a) 13 13 rfl (by decide) (by decide) rb
  have hr : rawB a = rawB a := rfl
  conv at hr => rhs; unfold rawB
  simp only [Nat.reduceSub, Nat.reduceAdd, Nat.reducePow] at b0 b1 b2 b3 rb
  unfold immB
  generalize rawB a = r at *
  generalize hx0 : fd a 31 31 = x0 at T0 b0
  generalize hx1 : fd a 7 7 = x1 at T1 b1
  generalize hx2 : fd a 30 25 = x2 at T2 b2
  generalize hx3 : fd a 11 8 = x3 at T3 b3
  simp only [hx0, hx1, hx2, hx3] at hr
  clear hx0 hx1 hx2 hx3
  have o1 : bits .or .i64 (x0 * 4096) (x1 * 2048) = x0 * 4096 + x1 * 2048 := i64_orp 12 4096 rfl ⟨by omega, by omega⟩ (by omega) ⟨by omega, by omega⟩ (by omega)
  have o2 : bits .or .i64 (x0 * 4096 + x1 * 2048) (x2 * 32) = x0 * 4096 + x1 * 2048 + x2 * 32 := i64_orp 11 2048 rfl ⟨by omega, by omega⟩ (by omega) ⟨by omega, by omega⟩ (by omega)
  have o3 : bits .or .i64 (x0 * 4096 + x1 * 2048 + x2 * 32) (x3 * 2) = x0 * 4096 + x1 * 2048 + x2 * 32 + x3 * 2 := i64_orp 5 32 rfl ⟨by omega, by omega⟩ (by omega) ⟨by omega, by omega⟩ (by omega)
  have hr2 := hr.symm
  clear hr
  go_enter Tryz.func165, Tryz.ntmps165
  go_wp2_with (first | (go_at_call 159; (with_reducible refine (T0 _).mono ?_); rintro e w' ⟨rfl, k, rfl⟩) | (go_at_call 159; (with_reducible refine (T1 _).mono ?_); rintro e w' ⟨rfl, k, rfl⟩) | (go_at_call 159; (with_reducible refine (T2 _).mono ?_); rintro e w' ⟨rfl, k, rfl⟩) | (go_at_call 159; (with_reducible refine (T3 _).mono ?_); rintro e w' ⟨rfl, k, rfl⟩) | (go_at_call 209; (with_reducible refine (S _).mono ?_); rintro e w' ⟨rfl, rfl⟩))
  repeat (go_quiet (first | (go_at_call 159; (with_reducible exact Calls.quiet_of (T0 _))) | (go_at_call 159; (with_reducible exact Calls.quiet_of (T1 _))) | (go_at_call 159; (with_reducible exact Calls.quiet_of (T2 _))) | (go_at_call 159; (with_reducible exact Calls.quiet_of (T3 _))) | (go_at_call 209; exact Calls.quiet_of_same (S _))); try (go_wp2_with (fail)))
  go_ret
  exact ⟨rfl, _, rfl⟩
set_option maxHeartbeats 1000000 in
theorem j_any (a : Int) (ha : W32 a) (w : World) : Calls Tryz.prog 163 #[.int .u32 a] w fun e w' => e = .returned (.int .i64 (immJ a)) ∧ ∃ k, w' = w.drewN k := by
  have T0 := bits_any a 31 31 31 31 ha rfl rfl (by decide) (by decide)
  have T1 := bits_any a 19 12 19 12 ha rfl rfl (by decide) (by decide)
  have T2 := bits_any a 20 20 20 20 ha rfl rfl (by decide) (by decide)
  have T3 := bits_any a 30 21 30 21 ha rfl rfl (by decide) (by decide)
  have b0 := fd_bd a 31 31
  have b1 := fd_bd a 19 12
  have b2 := fd_bd a 20 20
  have b3 := fd_bd a 30 21
  have rb := rawJ_bd a
  have S := signed_any (rawJ a) 21 21 rfl (by decide) (by decide) rb
  have hr : rawJ a = rawJ a := rfl
  conv at hr => rhs; unfold rawJ
  simp only [Nat.reduceSub, Nat.reduceAdd, Nat.reducePow] at b0 b1 b2 b3 rb
  unfold immJ
  generalize rawJ a = r at *
  generalize hx0 : fd a 31 31 = x0 at T0 b0
  generalize hx1 : fd a 19 12 = x1 at T1 b1
  generalize hx2 : fd a 20 20 = x2 at T2 b2
  generalize hx3 : fd a 30 21 = x3 at T3 b3
  simp only [hx0, hx1, hx2, hx3] at hr
  clear hx0 hx1 hx2 hx3
  have o1 : bits .or .i64 (x0 * 1048576) (x1 * 4096) = x0 * 1048576 + x1 * 4096 := i64_orp 20 1048576 rfl ⟨by omega, by omega⟩ (by omega) ⟨by omega, by omega⟩ (by omega)
  have o2 : bits .or .i64 (x0 * 1048576 + x1 * 4096) (x2 * 2048) = x0 * 1048576 + x1 * 4096 + x2 * 2048 := i64_orp 12 4096 rfl ⟨by omega, by omega⟩ (by omega) ⟨by omega, by omega⟩ (by omega)
  have o3 : bits .or .i64 (x0 * 1048576 + x1 * 4096 + x2 * 2048) (x3 * 2) = x0 * 1048576 + x1 * 4096 + x2 * 2048 + x3 * 2 := i64_orp 11 2048 rfl ⟨by omega, by omega⟩ (by omega) ⟨by omega, by omega⟩ (by omega)
  have hr2 := hr.symm
  clear hr
  go_enter Tryz.func163, Tryz.ntmps163
  go_wp2_with (first | (go_at_call 159; (with_reducible refine (T0 _).mono ?_); rintro e w' ⟨rfl, k, rfl⟩) | (go_at_call 159; (with_reducible refine (T1 _).mono ?_); rintro e w' ⟨rfl, k, rfl⟩) | (go_at_call 159; (with_reducible refine (T2 _).mono ?_); rintro e w' ⟨rfl, k, rfl⟩) | (go_at_call 159; (with_reducible refine (T3 _).mono ?_); rintro e w' ⟨rfl, k, rfl⟩) | (go_at_call 209; (with_reducible refine (S _).mono ?_); rintro e w' ⟨rfl, rfl⟩))
  repeat (go_quiet (first | (go_at_call 159; (with_reducible exact Calls.quiet_of (T0 _))) | (go_at_call 159; (with_reducible exact Calls.quiet_of (T1 _))) | (go_at_call 159; (with_reducible exact Calls.quiet_of (T2 _))) | (go_at_call 159; (with_reducible exact Calls.quiet_of (T3 _))) | (go_at_call 209; exact Calls.quiet_of_same (S _))); try (go_wp2_with (fail)))
  go_ret
  exact ⟨rfl, _, rfl⟩
set_option maxHeartbeats 1000000 in
theorem rb_any (a : Int) (ha : W32 a) (w : World) : Calls Tryz.prog 74 #[.int .u32 a] w fun e w' => e = .returned (.int .i64 (immB a)) ∧ ∃ k, w' = w.drewN k := by
  have T0 := rbits_any a 31 31 31 31 ha rfl rfl (by decide) (by decide)
  have T1 := rbits_any a 7 7 7 7 ha rfl rfl (by decide) (by decide)
  have T2 := rbits_any a 30 25 30 25 ha rfl rfl (by decide) (by decide)
  have T3 := rbits_any a 11 8 11 8 ha rfl rfl (by decide) (by decide)
  have b0 := fd_bd a 31 31
  have b1 := fd_bd a 7 7
  have b2 := fd_bd a 30 25
  have b3 := fd_bd a 11 8
  have rb := rawB_bd a
  have S := rsigned_any (rawB a) 13 13 rfl (by decide) (by decide) rb
  have hr : rawB a = rawB a := rfl
  conv at hr => rhs; unfold rawB
  simp only [Nat.reduceSub, Nat.reduceAdd, Nat.reducePow] at b0 b1 b2 b3 rb
  unfold immB
  generalize rawB a = r at *
  generalize hx0 : fd a 31 31 = x0 at T0 b0
  generalize hx1 : fd a 7 7 = x1 at T1 b1
  generalize hx2 : fd a 30 25 = x2 at T2 b2
  generalize hx3 : fd a 11 8 = x3 at T3 b3
  simp only [hx0, hx1, hx2, hx3] at hr
  clear hx0 hx1 hx2 hx3
  have hr2 := hr.symm
  clear hr
  go_enter Tryz.func74, Tryz.ntmps74
  go_wp2_with (first | (go_at_call 70; (with_reducible refine (T0 _).mono ?_); rintro e w' ⟨rfl, k, rfl⟩) | (go_at_call 70; (with_reducible refine (T1 _).mono ?_); rintro e w' ⟨rfl, k, rfl⟩) | (go_at_call 70; (with_reducible refine (T2 _).mono ?_); rintro e w' ⟨rfl, k, rfl⟩) | (go_at_call 70; (with_reducible refine (T3 _).mono ?_); rintro e w' ⟨rfl, k, rfl⟩) | (go_at_call 112; (with_reducible refine (S _).mono ?_); rintro e w' ⟨rfl, rfl⟩))
  repeat (go_quiet (first | (go_at_call 70; (with_reducible exact Calls.quiet_of (T0 _))) | (go_at_call 70; (with_reducible exact Calls.quiet_of (T1 _))) | (go_at_call 70; (with_reducible exact Calls.quiet_of (T2 _))) | (go_at_call 70; (with_reducible exact Calls.quiet_of (T3 _))) | (go_at_call 112; (with_reducible exact Calls.quiet_of_same (S _)))); try (go_wp2_with (fail)))
  go_ret
  exact ⟨rfl, _, rfl⟩
set_option maxHeartbeats 1000000 in
theorem rj_any (a : Int) (ha : W32 a) (w : World) : Calls Tryz.prog 72 #[.int .u32 a] w fun e w' => e = .returned (.int .i64 (immJ a)) ∧ ∃ k, w' = w.drewN k := by
  have T0 := rbits_any a 31 31 31 31 ha rfl rfl (by decide) (by decide)
  have T1 := rbits_any a 19 12 19 12 ha rfl rfl (by decide) (by decide)
  have T2 := rbits_any a 20 20 20 20 ha rfl rfl (by decide) (by decide)
  have T3 := rbits_any a 30 21 30 21 ha rfl rfl (by decide) (by decide)
  have b0 := fd_bd a 31 31
  have b1 := fd_bd a 19 12
  have b2 := fd_bd a 20 20
  have b3 := fd_bd a 30 21
  have rb := rawJ_bd a
  have S := rsigned_any (rawJ a) 21 21 rfl (by decide) (by decide) rb
  have hr : rawJ a = rawJ a := rfl
  conv at hr => rhs; unfold rawJ
  simp only [Nat.reduceSub, Nat.reduceAdd, Nat.reducePow] at b0 b1 b2 b3 rb
  unfold immJ
  generalize rawJ a = r at *
  generalize hx0 : fd a 31 31 = x0 at T0 b0
  generalize hx1 : fd a 19 12 = x1 at T1 b1
  generalize hx2 : fd a 20 20 = x2 at T2 b2
  generalize hx3 : fd a 30 21 = x3 at T3 b3
  simp only [hx0, hx1, hx2, hx3] at hr
  clear hx0 hx1 hx2 hx3
  have hr2 := hr.symm
  clear hr
  go_enter Tryz.func72, Tryz.ntmps72
  go_wp2_with (first | (go_at_call 70; (with_reducible refine (T0 _).mono ?_); rintro e w' ⟨rfl, k, rfl⟩) | (go_at_call 70; (with_reducible refine (T1 _).mono ?_); rintro e w' ⟨rfl, k, rfl⟩) | (go_at_call 70; (with_reducible refine (T2 _).mono ?_); rintro e w' ⟨rfl, k, rfl⟩) | (go_at_call 70; (with_reducible refine (T3 _).mono ?_); rintro e w' ⟨rfl, k, rfl⟩) | (go_at_call 112; (with_reducible refine (S _).mono ?_); rintro e w' ⟨rfl, rfl⟩))
  repeat (go_quiet (first | (go_at_call 70; (with_reducible exact Calls.quiet_of (T0 _))) | (go_at_call 70; (with_reducible exact Calls.quiet_of (T1 _))) | (go_at_call 70; (with_reducible exact Calls.quiet_of (T2 _))) | (go_at_call 70; (with_reducible exact Calls.quiet_of (T3 _))) | (go_at_call 112; (with_reducible exact Calls.quiet_of_same (S _)))); try (go_wp2_with (fail)))
  go_ret
  exact ⟨rfl, _, rfl⟩
end Go.Proofs.YthkodjkkcgdmfaaGreat.Enc
end
section
namespace Go.Proofs.YthkodjkkcgdmfaaGreat.Hart
open Go Go.RowKit Go.Proofs.YthkodjkkcgdmfaaGreat.Step Go.Proofs.YthkodjkkcgdmfaaGreat.Enc Go.Proofs.YthkodjkkcgdmfaaGreat.Kn
set_option linter.unusedVariables false
set_option linter.unusedSimpArgs false
set_option maxRecDepth 100000
def jumpP (s : Stp) (n : Nat) (to : Int) : Stp := { rdP s n (addW s.was.pc s.long) with h := { (rdP s n (addW s.was.pc s.long)).h with pc := to } }
def pcP (s : Stp) (to : Int) : Stp := { s with h := { s.h with pc := to } }
set_option maxHeartbeats 4000000 in
theorem jump_any {W : World} {g : Nat} {s : Stp} {n : Nat} (hb : Blk W g (sc s) TS) (hr : s.rd = n) (hn : n < 32) (to : Int) : Calls Tryz.prog 121 #[.pointer (some ⟨g, 0, none⟩), .int .u64 to] W fun e w' => e = .returned (.tuple #[]) ∧ Blk w' g (sc (jumpP s n to)) TS ∧ Mod (One g) W w' := by
  have e0 : IntKind.u64.wrap (s.was.pc + s.long) = addW s.was.pc s.long := rfl
  have T0 := Lib.hid (fun (W' : World) (hb : Blk W' g (sc s) TS) v => rd_any hb hr hn v)
  clear hr hn
  have ST := Lib.hid (Kn.start (S := One g) hb rfl)
  have HB := Lib.hid hb
  clear hb
  go_enter Tryz.func121, Tryz.ntmps121
  go_wp2_with (first
    | ((with_reducible refine Sq.region (id := 0) (I := fun X => Kn _ _ X _) ?hm5 11 ST.out.drew ?hp5 ?hs5); (case hm5 => rfl); (case hp5 => kernel_rfl); intro ops K hops hK; clear hops; dsimp only [List.take]; (repeat (first | (refine Sq.seq_move rfl rfl ?_; simp only [Act.put, Act.eval, Array.getD_eq_getD_getElem?, List.getElem?_toArray, List.getElem?_cons_zero, List.getElem?_cons_succ, Option.getD_some, List.setIfInBounds_toArray, List.set_cons_zero, List.set_cons_succ]) | (refine Sq.seq_check rfl rfl rfl ?_; simp only [Act.put, Act.eval, Array.getD_eq_getD_getElem?, List.getElem?_toArray, List.getElem?_cons_zero, List.getElem?_cons_succ, Option.getD_some, List.setIfInBounds_toArray, List.set_cons_zero, List.set_cons_succ]) | (refine Sq.seq_load (t := 22) (fun X hX => hX.at0) (Sq.wanted_none rfl) rfl rfl pl_u64 (sv_ok _ (by decide)) ?_; simp only [Act.put, Act.eval, Array.getD_eq_getD_getElem?, List.getElem?_toArray, List.getElem?_cons_zero, List.getElem?_cons_succ, Option.getD_some, List.setIfInBounds_toArray, List.set_cons_zero, List.set_cons_succ, sv_dry, sv_now, sv_k, sv_fn, sv_rd, sv_rs1, sv_rs2, sv_imm, sv_sz, sv_sg, sv_long, sv_bits, sv_ek, sv_ea, sv_eva, sv_egpa, sv_ewalk, sv_ewrote, sv_was_pc, sv_was_user, sv_was_on, sv_was_spie, sv_was_spp, sv_was_sum, sv_was_mxr, sv_was_rsv, sv_was_stvec, sv_was_sscr, sv_was_sepc, sv_was_scause, sv_was_stval, sv_was_sie, sv_was_sip, sv_was_satp, sv_was_resv, sv_h_pc, sv_h_user, sv_h_on, sv_h_spie, sv_h_spp, sv_h_sum, sv_h_mxr, sv_h_rsv, sv_h_stvec, sv_h_sscr, sv_h_sepc, sv_h_scause, sv_h_stval, sv_h_sie, sv_h_sip, sv_h_satp, sv_h_resv, sv_c, e0]) | (refine Sq.seq_load (t := 3) (fun X hX => hX.at0) (Sq.wanted_none rfl) rfl rfl pl_int (sv_ok _ (by decide)) ?_; simp only [Act.put, Act.eval, Array.getD_eq_getD_getElem?, List.getElem?_toArray, List.getElem?_cons_zero, List.getElem?_cons_succ, Option.getD_some, List.setIfInBounds_toArray, List.set_cons_zero, List.set_cons_succ, sv_dry, sv_now, sv_k, sv_fn, sv_rd, sv_rs1, sv_rs2, sv_imm, sv_sz, sv_sg, sv_long, sv_bits, sv_ek, sv_ea, sv_eva, sv_egpa, sv_ewalk, sv_ewrote, sv_was_pc, sv_was_user, sv_was_on, sv_was_spie, sv_was_spp, sv_was_sum, sv_was_mxr, sv_was_rsv, sv_was_stvec, sv_was_sscr, sv_was_sepc, sv_was_scause, sv_was_stval, sv_was_sie, sv_was_sip, sv_was_satp, sv_was_resv, sv_h_pc, sv_h_user, sv_h_on, sv_h_spie, sv_h_spp, sv_h_sum, sv_h_mxr, sv_h_rsv, sv_h_stvec, sv_h_sscr, sv_h_sepc, sv_h_scause, sv_h_stval, sv_h_sie, sv_h_sip, sv_h_satp, sv_h_resv, sv_c, e0]) | (refine Sq.seq_load (t := 4) (fun X hX => hX.at0) (Sq.wanted_none rfl) rfl rfl pl_bool (sv_ok _ (by decide)) ?_; simp only [Act.put, Act.eval, Array.getD_eq_getD_getElem?, List.getElem?_toArray, List.getElem?_cons_zero, List.getElem?_cons_succ, Option.getD_some, List.setIfInBounds_toArray, List.set_cons_zero, List.set_cons_succ, sv_dry, sv_now, sv_k, sv_fn, sv_rd, sv_rs1, sv_rs2, sv_imm, sv_sz, sv_sg, sv_long, sv_bits, sv_ek, sv_ea, sv_eva, sv_egpa, sv_ewalk, sv_ewrote, sv_was_pc, sv_was_user, sv_was_on, sv_was_spie, sv_was_spp, sv_was_sum, sv_was_mxr, sv_was_rsv, sv_was_stvec, sv_was_sscr, sv_was_sepc, sv_was_scause, sv_was_stval, sv_was_sie, sv_was_sip, sv_was_satp, sv_was_resv, sv_h_pc, sv_h_user, sv_h_on, sv_h_spie, sv_h_spp, sv_h_sum, sv_h_mxr, sv_h_rsv, sv_h_stvec, sv_h_sscr, sv_h_sepc, sv_h_scause, sv_h_stval, sv_h_sie, sv_h_sip, sv_h_satp, sv_h_resv, sv_c, e0]) | (refine' Sq.seq_pure rfl (fun X => _) _; rotate_left; (first | (go_simp; done) | (go_simp; rfl)); simp only [Act.put, Act.eval, Array.getD_eq_getD_getElem?, List.getElem?_toArray, List.getElem?_cons_zero, List.getElem?_cons_succ, Option.getD_some, List.setIfInBounds_toArray, List.set_cons_zero, List.set_cons_succ]))); refine Sq.seq_nil ?_; refine hK.out _ fun w1 hk => ?_; clear hK; replace ST := Lib.hid hk; clear hk; dsimp only [List.drop])
    | (go_at_call 119; (with_reducible refine (T0.out _ ST.out.at0 _).mono ?_); rintro e w' ⟨rfl, nb, m⟩; replace ST := Lib.hid (ST.out.set0 nb m); clear nb m)
    | ((with_reducible refine Step.gate_store (t := 22) rfl ?_); refine Step.store ST.out.at0 rfl rfl rfl rfl rfl pl_u64 rfl rfl ?_; intro w3 nb m; simp [go_sem, sst_dry, sst_now, sst_k, sst_fn, sst_rd, sst_rs1, sst_rs2, sst_imm, sst_sz, sst_sg, sst_long, sst_bits, sst_ek, sst_ea, sst_eva, sst_egpa, sst_ewalk, sst_ewrote, sst_h_pc, sst_h_user, sst_h_on, sst_h_spie, sst_h_spp, sst_h_sum, sst_h_mxr, sst_h_rsv, sst_h_stvec, sst_h_sscr, sst_h_sepc, sst_h_scause, sst_h_stval, sst_h_sie, sst_h_sip, sst_h_satp, sst_h_resv, sst_h_x0] at nb; replace ST := Lib.hid (ST.out.set0 nb m); clear nb m)
    | ((with_reducible refine Step.gate_store (t := 3) rfl ?_); refine Step.store ST.out.at0 rfl rfl rfl rfl rfl pl_int rfl rfl ?_; intro w3 nb m; simp [go_sem, sst_dry, sst_now, sst_k, sst_fn, sst_rd, sst_rs1, sst_rs2, sst_imm, sst_sz, sst_sg, sst_long, sst_bits, sst_ek, sst_ea, sst_eva, sst_egpa, sst_ewalk, sst_ewrote, sst_h_pc, sst_h_user, sst_h_on, sst_h_spie, sst_h_spp, sst_h_sum, sst_h_mxr, sst_h_rsv, sst_h_stvec, sst_h_sscr, sst_h_sepc, sst_h_scause, sst_h_stval, sst_h_sie, sst_h_sip, sst_h_satp, sst_h_resv, sst_h_x0] at nb; replace ST := Lib.hid (ST.out.set0 nb m); clear nb m)
    | ((with_reducible refine Step.gate_store (t := 4) rfl ?_); refine Step.store ST.out.at0 rfl rfl rfl rfl rfl pl_bool rfl rfl ?_; intro w3 nb m; simp [go_sem, sst_dry, sst_now, sst_k, sst_fn, sst_rd, sst_rs1, sst_rs2, sst_imm, sst_sz, sst_sg, sst_long, sst_bits, sst_ek, sst_ea, sst_eva, sst_egpa, sst_ewalk, sst_ewrote, sst_h_pc, sst_h_user, sst_h_on, sst_h_spie, sst_h_spp, sst_h_sum, sst_h_mxr, sst_h_rsv, sst_h_stvec, sst_h_sscr, sst_h_sepc, sst_h_scause, sst_h_stval, sst_h_sie, sst_h_sip, sst_h_satp, sst_h_resv, sst_h_x0] at nb; replace ST := Lib.hid (ST.out.set0 nb m); clear nb m))
  all_goals (first | go_ret | go_end0 | refine bodyPost_ret (results_none rfl _ _ _) rfl ?_)
  all_goals (exact ⟨rfl, ST.out.at0, ST.out.mod⟩)
set_option maxHeartbeats 4000000 in
theorem jal_any {W : World} {g : Nat} {s : Stp} {n : Nat} (hb : Blk W g (sc s) TS) (hr : s.rd = n) (hn : n < 32) : Calls Tryz.prog 89 #[.pointer (some ⟨g, 0, none⟩)] W fun e w' => e = .returned (.tuple #[]) ∧ Blk w' g (sc (jumpP s n (addW s.was.pc (immP s)))) TS ∧ Mod (One g) W w' := by
  have e0 : IntKind.u64.wrap (s.was.pc + immP s) = addW s.was.pc (immP s) := rfl
  have T0 := Lib.hid (fun (W' : World) (hb : Blk W' g (sc s) TS) v => jump_any hb hr hn v)
  clear hr hn
  have ST := Lib.hid (Kn.start (S := One g) hb rfl)
  have HB := Lib.hid hb
  clear hb
  go_enter Tryz.func89, Tryz.ntmps89
  go_wp2_with (first
    | ((with_reducible refine Sq.region (id := 0) (I := fun X => Kn _ _ X _) ?hm7 9 ST.out.drew ?hp7 ?hs7); (case hm7 => rfl); (case hp7 => kernel_rfl); intro ops K hops hK; clear hops; dsimp only [List.take]; (repeat (first | (refine Sq.seq_move rfl rfl ?_; simp only [Act.put, Act.eval, Array.getD_eq_getD_getElem?, List.getElem?_toArray, List.getElem?_cons_zero, List.getElem?_cons_succ, Option.getD_some, List.setIfInBounds_toArray, List.set_cons_zero, List.set_cons_succ]) | (refine Sq.seq_check rfl rfl rfl ?_; simp only [Act.put, Act.eval, Array.getD_eq_getD_getElem?, List.getElem?_toArray, List.getElem?_cons_zero, List.getElem?_cons_succ, Option.getD_some, List.setIfInBounds_toArray, List.set_cons_zero, List.set_cons_succ]) | (refine Sq.seq_load (t := 22) (fun X hX => hX.at0) (Sq.wanted_none rfl) rfl rfl pl_u64 (sv_ok _ (by decide)) ?_; simp only [Act.put, Act.eval, Array.getD_eq_getD_getElem?, List.getElem?_toArray, List.getElem?_cons_zero, List.getElem?_cons_succ, Option.getD_some, List.setIfInBounds_toArray, List.set_cons_zero, List.set_cons_succ, sv_dry, sv_now, sv_k, sv_fn, sv_rd, sv_rs1, sv_rs2, sv_imm, sv_sz, sv_sg, sv_long, sv_bits, sv_ek, sv_ea, sv_eva, sv_egpa, sv_ewalk, sv_ewrote, sv_was_pc, sv_was_user, sv_was_on, sv_was_spie, sv_was_spp, sv_was_sum, sv_was_mxr, sv_was_rsv, sv_was_stvec, sv_was_sscr, sv_was_sepc, sv_was_scause, sv_was_stval, sv_was_sie, sv_was_sip, sv_was_satp, sv_was_resv, sv_h_pc, sv_h_user, sv_h_on, sv_h_spie, sv_h_spp, sv_h_sum, sv_h_mxr, sv_h_rsv, sv_h_stvec, sv_h_sscr, sv_h_sepc, sv_h_scause, sv_h_stval, sv_h_sie, sv_h_sip, sv_h_satp, sv_h_resv, sv_c]) | (refine Sq.seq_load (t := 3) (fun X hX => hX.at0) (Sq.wanted_none rfl) rfl rfl pl_int (sv_ok _ (by decide)) ?_; simp only [Act.put, Act.eval, Array.getD_eq_getD_getElem?, List.getElem?_toArray, List.getElem?_cons_zero, List.getElem?_cons_succ, Option.getD_some, List.setIfInBounds_toArray, List.set_cons_zero, List.set_cons_succ, sv_dry, sv_now, sv_k, sv_fn, sv_rd, sv_rs1, sv_rs2, sv_imm, sv_sz, sv_sg, sv_long, sv_bits, sv_ek, sv_ea, sv_eva, sv_egpa, sv_ewalk, sv_ewrote, sv_was_pc, sv_was_user, sv_was_on, sv_was_spie, sv_was_spp, sv_was_sum, sv_was_mxr, sv_was_rsv, sv_was_stvec, sv_was_sscr, sv_was_sepc, sv_was_scause, sv_was_stval, sv_was_sie, sv_was_sip, sv_was_satp, sv_was_resv, sv_h_pc, sv_h_user, sv_h_on, sv_h_spie, sv_h_spp, sv_h_sum, sv_h_mxr, sv_h_rsv, sv_h_stvec, sv_h_sscr, sv_h_sepc, sv_h_scause, sv_h_stval, sv_h_sie, sv_h_sip, sv_h_satp, sv_h_resv, sv_c]) | (refine Sq.seq_load (t := 4) (fun X hX => hX.at0) (Sq.wanted_none rfl) rfl rfl pl_bool (sv_ok _ (by decide)) ?_; simp only [Act.put, Act.eval, Array.getD_eq_getD_getElem?, List.getElem?_toArray, List.getElem?_cons_zero, List.getElem?_cons_succ, Option.getD_some, List.setIfInBounds_toArray, List.set_cons_zero, List.set_cons_succ, sv_dry, sv_now, sv_k, sv_fn, sv_rd, sv_rs1, sv_rs2, sv_imm, sv_sz, sv_sg, sv_long, sv_bits, sv_ek, sv_ea, sv_eva, sv_egpa, sv_ewalk, sv_ewrote, sv_was_pc, sv_was_user, sv_was_on, sv_was_spie, sv_was_spp, sv_was_sum, sv_was_mxr, sv_was_rsv, sv_was_stvec, sv_was_sscr, sv_was_sepc, sv_was_scause, sv_was_stval, sv_was_sie, sv_was_sip, sv_was_satp, sv_was_resv, sv_h_pc, sv_h_user, sv_h_on, sv_h_spie, sv_h_spp, sv_h_sum, sv_h_mxr, sv_h_rsv, sv_h_stvec, sv_h_sscr, sv_h_sepc, sv_h_scause, sv_h_stval, sv_h_sie, sv_h_sip, sv_h_satp, sv_h_resv, sv_c]) | (refine Sq.seq_call 120 rfl (Sq.wanted_none rfl) (fun X => ?_) (fun X hX => (imm_any hX.at0).mono fun e w' h => ⟨h.1, hX.call h.2⟩) ?_; (focus (first | (go_simp; done) | (go_simp; rfl))); simp only [Act.put, Act.eval, Array.getD_eq_getD_getElem?, List.getElem?_toArray, List.getElem?_cons_zero, List.getElem?_cons_succ, Option.getD_some, List.setIfInBounds_toArray, List.set_cons_zero, List.set_cons_succ, e0]) | (refine' Sq.seq_pure rfl (fun X => _) _; rotate_left; (first | (go_simp; done) | (go_simp; rfl)); simp only [Act.put, Act.eval, Array.getD_eq_getD_getElem?, List.getElem?_toArray, List.getElem?_cons_zero, List.getElem?_cons_succ, Option.getD_some, List.setIfInBounds_toArray, List.set_cons_zero, List.set_cons_succ, e0]))); refine Sq.seq_nil ?_; refine hK.out _ fun w1 hk => ?_; clear hK; replace ST := Lib.hid hk; clear hk; dsimp only [List.drop])
    | (go_at_call 121; (with_reducible refine (T0.out _ ST.out.at0 _).mono ?_); rintro e w' ⟨rfl, nb, m⟩; replace ST := Lib.hid (ST.out.set0 nb m); clear nb m))
  all_goals (first | go_ret | go_end0 | refine bodyPost_ret (results_none rfl _ _ _) rfl ?_)
  all_goals (exact ⟨rfl, ST.out.at0, ST.out.mod⟩)
end Go.Proofs.YthkodjkkcgdmfaaGreat.Hart
end
section
namespace Go.Proofs.YthkodjkkcgdmfaaGreat.Hart
open Go Go.RowKit Go.Proofs.YthkodjkkcgdmfaaGreat.Step Go.Proofs.YthkodjkkcgdmfaaGreat.Enc Go.Proofs.YthkodjkkcgdmfaaGreat.Kn
set_option linter.unusedVariables false
set_option linter.unusedSimpArgs false
set_option maxRecDepth 100000
def brV (n a b : Int) : Bool := if n = 1 then a == b else if n = 2 then a != b else if n = 3 then decide (wrap64 a < wrap64 b) else if n = 4 then decide (wrap64 a ≥ wrap64 b) else if n = 5 then decide (a < b) else if n = 6 then decide (a ≥ b) else false
set_option maxHeartbeats 4000000 in
theorem branch_at (n a b : Int) (w : World) : Calls Tryz.prog 123 #[.int .i64 n, .int .u64 a, .int .u64 b] w fun e w' => e = .returned (.bool (brV n a b)) ∧ Below w.heap.size w w' := by
  unfold brV
  by_cases h1 : n = 1
  · subst h1
    simp only [if_true, Int.reduceEq, if_false]
    go_enter Tryz.func123, Tryz.ntmps123
    have HB := Lib.hid (Below.refl _ _ : Below w.heap.size w w)
    go_wp2
    go_ret
    exact ⟨rfl, HB.out⟩
  by_cases h2 : n = 2
  · subst h2
    simp only [if_true, Int.reduceEq, if_false]
    go_enter Tryz.func123, Tryz.ntmps123
    have HB := Lib.hid (Below.refl _ _ : Below w.heap.size w w)
    go_wp2
    go_ret
    exact ⟨rfl, HB.out⟩
  by_cases h3 : n = 3
  · subst h3
    simp only [if_true, Int.reduceEq, if_false]
    go_enter Tryz.func123, Tryz.ntmps123
    have HB := Lib.hid (Below.refl _ _ : Below w.heap.size w w)
    go_wp2
    go_ret
    exact ⟨rfl, HB.out⟩
  by_cases h4 : n = 4
  · subst h4
    simp only [if_true, Int.reduceEq, if_false]
    go_enter Tryz.func123, Tryz.ntmps123
    have HB := Lib.hid (Below.refl _ _ : Below w.heap.size w w)
    go_wp2
    go_ret
    exact ⟨rfl, HB.out⟩
  by_cases h5 : n = 5
  · subst h5
    simp only [if_true, Int.reduceEq, if_false]
    go_enter Tryz.func123, Tryz.ntmps123
    have HB := Lib.hid (Below.refl _ _ : Below w.heap.size w w)
    go_wp2
    go_ret
    exact ⟨rfl, HB.out⟩
  by_cases h6 : n = 6
  · subst h6
    simp only [if_true, Int.reduceEq, if_false]
    go_enter Tryz.func123, Tryz.ntmps123
    have HB := Lib.hid (Below.refl _ _ : Below w.heap.size w w)
    go_wp2
    go_ret
    exact ⟨rfl, HB.out⟩
  rw [if_neg h1, if_neg h2, if_neg h3, if_neg h4, if_neg h5, if_neg h6]
  replace h1 := beq_eq_false_iff_ne.2 h1
  replace h2 := beq_eq_false_iff_ne.2 h2
  replace h3 := beq_eq_false_iff_ne.2 h3
  replace h4 := beq_eq_false_iff_ne.2 h4
  replace h5 := beq_eq_false_iff_ne.2 h5
  replace h6 := beq_eq_false_iff_ne.2 h6
  go_enter Tryz.func123, Tryz.ntmps123
  have HB := Lib.hid (Below.refl _ _ : Below w.heap.size w w)
  go_wp2
  go_ret
  exact ⟨rfl, HB.out⟩
end Go.Proofs.YthkodjkkcgdmfaaGreat.Hart
end
section
namespace Go.Proofs.YthkodjkkcgdmfaaGreat.Hart
open Go Go.RowKit Go.Proofs.YthkodjkkcgdmfaaGreat.Step Go.Proofs.YthkodjkkcgdmfaaGreat.Enc Go.Proofs.YthkodjkkcgdmfaaGreat.Kn
set_option linter.unusedVariables false
set_option linter.unusedSimpArgs false
set_option maxRecDepth 100000
def branchP (s : Stp) (n1 n2 : Nat) : Stp := if brV s.fn (s.was.x n1) (s.was.x n2) = true then pcP s (addW s.was.pc (immP s)) else s
set_option maxHeartbeats 4000000 in
theorem sbranch_true {W : World} {g : Nat} {s : Stp} {n1 n2 : Nat} (hb : Blk W g (sc s) TS) (hr1 : s.rs1 = n1) (hn1 : n1 < 32) (hr2 : s.rs2 = n2) (hn2 : n2 < 32) (hv : brV s.fn (s.was.x n1) (s.was.x n2) = true) : Calls Tryz.prog 91 #[.pointer (some ⟨g, 0, none⟩)] W fun e w' => e = .returned (.tuple #[]) ∧ Blk w' g (sc (pcP s (addW s.was.pc (immP s)))) TS ∧ Mod (One g) W w' := by
  have e0 : IntKind.u64.wrap (s.was.pc + immP s) = addW s.was.pc (immP s) := rfl
  have TX := Lib.hid (fun (W' : World) (hb : Blk W' g (sc s) TS) => x_any hb hr1 hn1)
  have TY := Lib.hid (fun (W' : World) (hb : Blk W' g (sc s) TS) => y_any hb hr2 hn2)
  have TB := Lib.hid (branch_at s.fn (s.was.x n1) (s.was.x n2))
  rw [hv] at TB
  clear hr1 hn1 hr2 hn2 hv
  have ST := Lib.hid (Kn.start (S := One g) hb rfl)
  have HB := Lib.hid hb
  clear hb
  go_enter Tryz.func91, Tryz.ntmps91
  go_wp2_with (first
    | ((with_reducible refine Sq.region (id := 0) (I := fun X => Kn _ _ X _) ?hm11 9 ST.out.drew ?hp11 ?hs11); (case hm11 => rfl); (case hp11 => kernel_rfl); intro ops K hops hK; clear hops; dsimp only [List.take]; (repeat (first | (refine Sq.seq_move rfl rfl ?_; simp only [Act.put, Act.eval, Array.getD_eq_getD_getElem?, List.getElem?_toArray, List.getElem?_cons_zero, List.getElem?_cons_succ, Option.getD_some, List.setIfInBounds_toArray, List.set_cons_zero, List.set_cons_succ]) | (refine Sq.seq_check rfl rfl rfl ?_; simp only [Act.put, Act.eval, Array.getD_eq_getD_getElem?, List.getElem?_toArray, List.getElem?_cons_zero, List.getElem?_cons_succ, Option.getD_some, List.setIfInBounds_toArray, List.set_cons_zero, List.set_cons_succ]) | (refine Sq.seq_load (t := 22) (fun X hX => hX.at0) (Sq.wanted_none rfl) rfl rfl pl_u64 (sv_ok _ (by decide)) ?_; simp only [Act.put, Act.eval, Array.getD_eq_getD_getElem?, List.getElem?_toArray, List.getElem?_cons_zero, List.getElem?_cons_succ, Option.getD_some, List.setIfInBounds_toArray, List.set_cons_zero, List.set_cons_succ, sv_dry, sv_now, sv_k, sv_fn, sv_rd, sv_rs1, sv_rs2, sv_imm, sv_sz, sv_sg, sv_long, sv_bits, sv_ek, sv_ea, sv_eva, sv_egpa, sv_ewalk, sv_ewrote, sv_was_pc, sv_was_user, sv_was_on, sv_was_spie, sv_was_spp, sv_was_sum, sv_was_mxr, sv_was_rsv, sv_was_stvec, sv_was_sscr, sv_was_sepc, sv_was_scause, sv_was_stval, sv_was_sie, sv_was_sip, sv_was_satp, sv_was_resv, sv_h_pc, sv_h_user, sv_h_on, sv_h_spie, sv_h_spp, sv_h_sum, sv_h_mxr, sv_h_rsv, sv_h_stvec, sv_h_sscr, sv_h_sepc, sv_h_scause, sv_h_stval, sv_h_sie, sv_h_sip, sv_h_satp, sv_h_resv, sv_c]) | (refine Sq.seq_load (t := 3) (fun X hX => hX.at0) (Sq.wanted_none rfl) rfl rfl pl_int (sv_ok _ (by decide)) ?_; simp only [Act.put, Act.eval, Array.getD_eq_getD_getElem?, List.getElem?_toArray, List.getElem?_cons_zero, List.getElem?_cons_succ, Option.getD_some, List.setIfInBounds_toArray, List.set_cons_zero, List.set_cons_succ, sv_dry, sv_now, sv_k, sv_fn, sv_rd, sv_rs1, sv_rs2, sv_imm, sv_sz, sv_sg, sv_long, sv_bits, sv_ek, sv_ea, sv_eva, sv_egpa, sv_ewalk, sv_ewrote, sv_was_pc, sv_was_user, sv_was_on, sv_was_spie, sv_was_spp, sv_was_sum, sv_was_mxr, sv_was_rsv, sv_was_stvec, sv_was_sscr, sv_was_sepc, sv_was_scause, sv_was_stval, sv_was_sie, sv_was_sip, sv_was_satp, sv_was_resv, sv_h_pc, sv_h_user, sv_h_on, sv_h_spie, sv_h_spp, sv_h_sum, sv_h_mxr, sv_h_rsv, sv_h_stvec, sv_h_sscr, sv_h_sepc, sv_h_scause, sv_h_stval, sv_h_sie, sv_h_sip, sv_h_satp, sv_h_resv, sv_c]) | (refine Sq.seq_load (t := 4) (fun X hX => hX.at0) (Sq.wanted_none rfl) rfl rfl pl_bool (sv_ok _ (by decide)) ?_; simp only [Act.put, Act.eval, Array.getD_eq_getD_getElem?, List.getElem?_toArray, List.getElem?_cons_zero, List.getElem?_cons_succ, Option.getD_some, List.setIfInBounds_toArray, List.set_cons_zero, List.set_cons_succ, sv_dry, sv_now, sv_k, sv_fn, sv_rd, sv_rs1, sv_rs2, sv_imm, sv_sz, sv_sg, sv_long, sv_bits, sv_ek, sv_ea, sv_eva, sv_egpa, sv_ewalk, sv_ewrote, sv_was_pc, sv_was_user, sv_was_on, sv_was_spie, sv_was_spp, sv_was_sum, sv_was_mxr, sv_was_rsv, sv_was_stvec, sv_was_sscr, sv_was_sepc, sv_was_scause, sv_was_stval, sv_was_sie, sv_was_sip, sv_was_satp, sv_was_resv, sv_h_pc, sv_h_user, sv_h_on, sv_h_spie, sv_h_spp, sv_h_sum, sv_h_mxr, sv_h_rsv, sv_h_stvec, sv_h_sscr, sv_h_sepc, sv_h_scause, sv_h_stval, sv_h_sie, sv_h_sip, sv_h_satp, sv_h_resv, sv_c]) | (refine Sq.seq_call 122 rfl (Sq.wanted_none rfl) (fun X => ?_) (fun X hX => (TX.out _ hX.at0).mono fun e w' h => ⟨h.1, hX.call h.2⟩) ?_; (focus (first | (go_simp; done) | (go_simp; rfl))); simp only [Act.put, Act.eval, Array.getD_eq_getD_getElem?, List.getElem?_toArray, List.getElem?_cons_zero, List.getElem?_cons_succ, Option.getD_some, List.setIfInBounds_toArray, List.set_cons_zero, List.set_cons_succ]) | (refine Sq.seq_call 124 rfl (Sq.wanted_none rfl) (fun X => ?_) (fun X hX => (TY.out _ hX.at0).mono fun e w' h => ⟨h.1, hX.call h.2⟩) ?_; (focus (first | (go_simp; done) | (go_simp; rfl))); simp only [Act.put, Act.eval, Array.getD_eq_getD_getElem?, List.getElem?_toArray, List.getElem?_cons_zero, List.getElem?_cons_succ, Option.getD_some, List.setIfInBounds_toArray, List.set_cons_zero, List.set_cons_succ]) | (refine' Sq.seq_pure rfl (fun X => _) _; rotate_left; (first | (go_simp; done) | (go_simp; rfl)); simp only [Act.put, Act.eval, Array.getD_eq_getD_getElem?, List.getElem?_toArray, List.getElem?_cons_zero, List.getElem?_cons_succ, Option.getD_some, List.setIfInBounds_toArray, List.set_cons_zero, List.set_cons_succ]))); refine Sq.seq_nil ?_; refine hK.out _ fun w1 hk => ?_; clear hK; replace ST := Lib.hid hk; clear hk; dsimp only [List.drop])
    | (go_at_call 123; (with_reducible refine (TB.out _).mono ?_); rintro e w' ⟨rfl, hb⟩; replace ST := Lib.hid (ST.out.call hb); clear hb)
    | ((with_reducible refine Sq.region (id := 1) (I := fun X => Kn _ _ X _) ?hm12 9 ST.out.drew ?hp12 ?hs12); (case hm12 => rfl); (case hp12 => kernel_rfl); intro ops K hops hK; clear hops; dsimp only [List.take]; (repeat (first | (refine Sq.seq_move rfl rfl ?_; simp only [Act.put, Act.eval, Array.getD_eq_getD_getElem?, List.getElem?_toArray, List.getElem?_cons_zero, List.getElem?_cons_succ, Option.getD_some, List.setIfInBounds_toArray, List.set_cons_zero, List.set_cons_succ]) | (refine Sq.seq_check rfl rfl rfl ?_; simp only [Act.put, Act.eval, Array.getD_eq_getD_getElem?, List.getElem?_toArray, List.getElem?_cons_zero, List.getElem?_cons_succ, Option.getD_some, List.setIfInBounds_toArray, List.set_cons_zero, List.set_cons_succ]) | (refine Sq.seq_load (t := 22) (fun X hX => hX.at0) (Sq.wanted_none rfl) rfl rfl pl_u64 (sv_ok _ (by decide)) ?_; simp only [Act.put, Act.eval, Array.getD_eq_getD_getElem?, List.getElem?_toArray, List.getElem?_cons_zero, List.getElem?_cons_succ, Option.getD_some, List.setIfInBounds_toArray, List.set_cons_zero, List.set_cons_succ, sv_dry, sv_now, sv_k, sv_fn, sv_rd, sv_rs1, sv_rs2, sv_imm, sv_sz, sv_sg, sv_long, sv_bits, sv_ek, sv_ea, sv_eva, sv_egpa, sv_ewalk, sv_ewrote, sv_was_pc, sv_was_user, sv_was_on, sv_was_spie, sv_was_spp, sv_was_sum, sv_was_mxr, sv_was_rsv, sv_was_stvec, sv_was_sscr, sv_was_sepc, sv_was_scause, sv_was_stval, sv_was_sie, sv_was_sip, sv_was_satp, sv_was_resv, sv_h_pc, sv_h_user, sv_h_on, sv_h_spie, sv_h_spp, sv_h_sum, sv_h_mxr, sv_h_rsv, sv_h_stvec, sv_h_sscr, sv_h_sepc, sv_h_scause, sv_h_stval, sv_h_sie, sv_h_sip, sv_h_satp, sv_h_resv, sv_c]) | (refine Sq.seq_load (t := 3) (fun X hX => hX.at0) (Sq.wanted_none rfl) rfl rfl pl_int (sv_ok _ (by decide)) ?_; simp only [Act.put, Act.eval, Array.getD_eq_getD_getElem?, List.getElem?_toArray, List.getElem?_cons_zero, List.getElem?_cons_succ, Option.getD_some, List.setIfInBounds_toArray, List.set_cons_zero, List.set_cons_succ, sv_dry, sv_now, sv_k, sv_fn, sv_rd, sv_rs1, sv_rs2, sv_imm, sv_sz, sv_sg, sv_long, sv_bits, sv_ek, sv_ea, sv_eva, sv_egpa, sv_ewalk, sv_ewrote, sv_was_pc, sv_was_user, sv_was_on, sv_was_spie, sv_was_spp, sv_was_sum, sv_was_mxr, sv_was_rsv, sv_was_stvec, sv_was_sscr, sv_was_sepc, sv_was_scause, sv_was_stval, sv_was_sie, sv_was_sip, sv_was_satp, sv_was_resv, sv_h_pc, sv_h_user, sv_h_on, sv_h_spie, sv_h_spp, sv_h_sum, sv_h_mxr, sv_h_rsv, sv_h_stvec, sv_h_sscr, sv_h_sepc, sv_h_scause, sv_h_stval, sv_h_sie, sv_h_sip, sv_h_satp, sv_h_resv, sv_c]) | (refine Sq.seq_load (t := 4) (fun X hX => hX.at0) (Sq.wanted_none rfl) rfl rfl pl_bool (sv_ok _ (by decide)) ?_; simp only [Act.put, Act.eval, Array.getD_eq_getD_getElem?, List.getElem?_toArray, List.getElem?_cons_zero, List.getElem?_cons_succ, Option.getD_some, List.setIfInBounds_toArray, List.set_cons_zero, List.set_cons_succ, sv_dry, sv_now, sv_k, sv_fn, sv_rd, sv_rs1, sv_rs2, sv_imm, sv_sz, sv_sg, sv_long, sv_bits, sv_ek, sv_ea, sv_eva, sv_egpa, sv_ewalk, sv_ewrote, sv_was_pc, sv_was_user, sv_was_on, sv_was_spie, sv_was_spp, sv_was_sum, sv_was_mxr, sv_was_rsv, sv_was_stvec, sv_was_sscr, sv_was_sepc, sv_was_scause, sv_was_stval, sv_was_sie, sv_was_sip, sv_was_satp, sv_was_resv, sv_h_pc, sv_h_user, sv_h_on, sv_h_spie, sv_h_spp, sv_h_sum, sv_h_mxr, sv_h_rsv, sv_h_stvec, sv_h_sscr, sv_h_sepc, sv_h_scause, sv_h_stval, sv_h_sie, sv_h_sip, sv_h_satp, sv_h_resv, sv_c]) | (refine Sq.seq_call 120 rfl (Sq.wanted_none rfl) (fun X => ?_) (fun X hX => (imm_any hX.at0).mono fun e w' h => ⟨h.1, hX.call h.2⟩) ?_; (focus (first | (go_simp; done) | (go_simp; rfl))); simp only [Act.put, Act.eval, Array.getD_eq_getD_getElem?, List.getElem?_toArray, List.getElem?_cons_zero, List.getElem?_cons_succ, Option.getD_some, List.setIfInBounds_toArray, List.set_cons_zero, List.set_cons_succ, e0]) | (refine' Sq.seq_pure rfl (fun X => _) _; rotate_left; (first | (go_simp; done) | (go_simp; rfl)); simp only [Act.put, Act.eval, Array.getD_eq_getD_getElem?, List.getElem?_toArray, List.getElem?_cons_zero, List.getElem?_cons_succ, Option.getD_some, List.setIfInBounds_toArray, List.set_cons_zero, List.set_cons_succ, e0]))); refine Sq.seq_nil ?_; refine hK.out _ fun w1 hk => ?_; clear hK; replace ST := Lib.hid hk; clear hk; dsimp only [List.drop])
    | ((with_reducible refine Step.gate_store (t := 22) rfl ?_); refine Step.store ST.out.at0 rfl rfl rfl rfl rfl pl_u64 rfl rfl ?_; intro w3 nb m; simp [go_sem, sst_dry, sst_now, sst_k, sst_fn, sst_rd, sst_rs1, sst_rs2, sst_imm, sst_sz, sst_sg, sst_long, sst_bits, sst_ek, sst_ea, sst_eva, sst_egpa, sst_ewalk, sst_ewrote, sst_h_pc, sst_h_user, sst_h_on, sst_h_spie, sst_h_spp, sst_h_sum, sst_h_mxr, sst_h_rsv, sst_h_stvec, sst_h_sscr, sst_h_sepc, sst_h_scause, sst_h_stval, sst_h_sie, sst_h_sip, sst_h_satp, sst_h_resv, sst_h_x0] at nb; replace ST := Lib.hid (ST.out.set0 nb m); clear nb m)
    | ((with_reducible refine Step.gate_store (t := 3) rfl ?_); refine Step.store ST.out.at0 rfl rfl rfl rfl rfl pl_int rfl rfl ?_; intro w3 nb m; simp [go_sem, sst_dry, sst_now, sst_k, sst_fn, sst_rd, sst_rs1, sst_rs2, sst_imm, sst_sz, sst_sg, sst_long, sst_bits, sst_ek, sst_ea, sst_eva, sst_egpa, sst_ewalk, sst_ewrote, sst_h_pc, sst_h_user, sst_h_on, sst_h_spie, sst_h_spp, sst_h_sum, sst_h_mxr, sst_h_rsv, sst_h_stvec, sst_h_sscr, sst_h_sepc, sst_h_scause, sst_h_stval, sst_h_sie, sst_h_sip, sst_h_satp, sst_h_resv, sst_h_x0] at nb; replace ST := Lib.hid (ST.out.set0 nb m); clear nb m)
    | ((with_reducible refine Step.gate_store (t := 4) rfl ?_); refine Step.store ST.out.at0 rfl rfl rfl rfl rfl pl_bool rfl rfl ?_; intro w3 nb m; simp [go_sem, sst_dry, sst_now, sst_k, sst_fn, sst_rd, sst_rs1, sst_rs2, sst_imm, sst_sz, sst_sg, sst_long, sst_bits, sst_ek, sst_ea, sst_eva, sst_egpa, sst_ewalk, sst_ewrote, sst_h_pc, sst_h_user, sst_h_on, sst_h_spie, sst_h_spp, sst_h_sum, sst_h_mxr, sst_h_rsv, sst_h_stvec, sst_h_sscr, sst_h_sepc, sst_h_scause, sst_h_stval, sst_h_sie, sst_h_sip, sst_h_satp, sst_h_resv, sst_h_x0] at nb; replace ST := Lib.hid (ST.out.set0 nb m); clear nb m))
  all_goals (first | go_ret | go_end0 | refine bodyPost_ret (results_none rfl _ _ _) rfl ?_)
  all_goals (exact ⟨rfl, ST.out.at0, ST.out.mod⟩)
set_option maxHeartbeats 4000000 in
theorem sbranch_false {W : World} {g : Nat} {s : Stp} {n1 n2 : Nat} (hb : Blk W g (sc s) TS) (hr1 : s.rs1 = n1) (hn1 : n1 < 32) (hr2 : s.rs2 = n2) (hn2 : n2 < 32) (hv : brV s.fn (s.was.x n1) (s.was.x n2) = false) : Calls Tryz.prog 91 #[.pointer (some ⟨g, 0, none⟩)] W fun e w' => e = .returned (.tuple #[]) ∧ Blk w' g (sc (s)) TS ∧ Mod (One g) W w' := by
  have e0 : IntKind.u64.wrap (s.was.pc + immP s) = addW s.was.pc (immP s) := rfl
  have TX := Lib.hid (fun (W' : World) (hb : Blk W' g (sc s) TS) => x_any hb hr1 hn1)
  have TY := Lib.hid (fun (W' : World) (hb : Blk W' g (sc s) TS) => y_any hb hr2 hn2)
  have TB := Lib.hid (branch_at s.fn (s.was.x n1) (s.was.x n2))
  rw [hv] at TB
  clear hr1 hn1 hr2 hn2 hv
  have ST := Lib.hid (Kn.start (S := One g) hb rfl)
  have HB := Lib.hid hb
  clear hb
  go_enter Tryz.func91, Tryz.ntmps91
  go_wp2_with (first
    | ((with_reducible refine Sq.region (id := 0) (I := fun X => Kn _ _ X _) ?hm13 9 ST.out.drew ?hp13 ?hs13); (case hm13 => rfl); (case hp13 => kernel_rfl); intro ops K hops hK; clear hops; dsimp only [List.take]; (repeat (first | (refine Sq.seq_move rfl rfl ?_; simp only [Act.put, Act.eval, Array.getD_eq_getD_getElem?, List.getElem?_toArray, List.getElem?_cons_zero, List.getElem?_cons_succ, Option.getD_some, List.setIfInBounds_toArray, List.set_cons_zero, List.set_cons_succ]) | (refine Sq.seq_check rfl rfl rfl ?_; simp only [Act.put, Act.eval, Array.getD_eq_getD_getElem?, List.getElem?_toArray, List.getElem?_cons_zero, List.getElem?_cons_succ, Option.getD_some, List.setIfInBounds_toArray, List.set_cons_zero, List.set_cons_succ]) | (refine Sq.seq_load (t := 22) (fun X hX => hX.at0) (Sq.wanted_none rfl) rfl rfl pl_u64 (sv_ok _ (by decide)) ?_; simp only [Act.put, Act.eval, Array.getD_eq_getD_getElem?, List.getElem?_toArray, List.getElem?_cons_zero, List.getElem?_cons_succ, Option.getD_some, List.setIfInBounds_toArray, List.set_cons_zero, List.set_cons_succ, sv_dry, sv_now, sv_k, sv_fn, sv_rd, sv_rs1, sv_rs2, sv_imm, sv_sz, sv_sg, sv_long, sv_bits, sv_ek, sv_ea, sv_eva, sv_egpa, sv_ewalk, sv_ewrote, sv_was_pc, sv_was_user, sv_was_on, sv_was_spie, sv_was_spp, sv_was_sum, sv_was_mxr, sv_was_rsv, sv_was_stvec, sv_was_sscr, sv_was_sepc, sv_was_scause, sv_was_stval, sv_was_sie, sv_was_sip, sv_was_satp, sv_was_resv, sv_h_pc, sv_h_user, sv_h_on, sv_h_spie, sv_h_spp, sv_h_sum, sv_h_mxr, sv_h_rsv, sv_h_stvec, sv_h_sscr, sv_h_sepc, sv_h_scause, sv_h_stval, sv_h_sie, sv_h_sip, sv_h_satp, sv_h_resv, sv_c]) | (refine Sq.seq_load (t := 3) (fun X hX => hX.at0) (Sq.wanted_none rfl) rfl rfl pl_int (sv_ok _ (by decide)) ?_; simp only [Act.put, Act.eval, Array.getD_eq_getD_getElem?, List.getElem?_toArray, List.getElem?_cons_zero, List.getElem?_cons_succ, Option.getD_some, List.setIfInBounds_toArray, List.set_cons_zero, List.set_cons_succ, sv_dry, sv_now, sv_k, sv_fn, sv_rd, sv_rs1, sv_rs2, sv_imm, sv_sz, sv_sg, sv_long, sv_bits, sv_ek, sv_ea, sv_eva, sv_egpa, sv_ewalk, sv_ewrote, sv_was_pc, sv_was_user, sv_was_on, sv_was_spie, sv_was_spp, sv_was_sum, sv_was_mxr, sv_was_rsv, sv_was_stvec, sv_was_sscr, sv_was_sepc, sv_was_scause, sv_was_stval, sv_was_sie, sv_was_sip, sv_was_satp, sv_was_resv, sv_h_pc, sv_h_user, sv_h_on, sv_h_spie, sv_h_spp, sv_h_sum, sv_h_mxr, sv_h_rsv, sv_h_stvec, sv_h_sscr, sv_h_sepc, sv_h_scause, sv_h_stval, sv_h_sie, sv_h_sip, sv_h_satp, sv_h_resv, sv_c]) | (refine Sq.seq_load (t := 4) (fun X hX => hX.at0) (Sq.wanted_none rfl) rfl rfl pl_bool (sv_ok _ (by decide)) ?_; simp only [Act.put, Act.eval, Array.getD_eq_getD_getElem?, List.getElem?_toArray, List.getElem?_cons_zero, List.getElem?_cons_succ, Option.getD_some, List.setIfInBounds_toArray, List.set_cons_zero, List.set_cons_succ, sv_dry, sv_now, sv_k, sv_fn, sv_rd, sv_rs1, sv_rs2, sv_imm, sv_sz, sv_sg, sv_long, sv_bits, sv_ek, sv_ea, sv_eva, sv_egpa, sv_ewalk, sv_ewrote, sv_was_pc, sv_was_user, sv_was_on, sv_was_spie, sv_was_spp, sv_was_sum, sv_was_mxr, sv_was_rsv, sv_was_stvec, sv_was_sscr, sv_was_sepc, sv_was_scause, sv_was_stval, sv_was_sie, sv_was_sip, sv_was_satp, sv_was_resv, sv_h_pc, sv_h_user, sv_h_on, sv_h_spie, sv_h_spp, sv_h_sum, sv_h_mxr, sv_h_rsv, sv_h_stvec, sv_h_sscr, sv_h_sepc, sv_h_scause, sv_h_stval, sv_h_sie, sv_h_sip, sv_h_satp, sv_h_resv, sv_c]) | (refine Sq.seq_call 122 rfl (Sq.wanted_none rfl) (fun X => ?_) (fun X hX => (TX.out _ hX.at0).mono fun e w' h => ⟨h.1, hX.call h.2⟩) ?_; (focus (first | (go_simp; done) | (go_simp; rfl))); simp only [Act.put, Act.eval, Array.getD_eq_getD_getElem?, List.getElem?_toArray, List.getElem?_cons_zero, List.getElem?_cons_succ, Option.getD_some, List.setIfInBounds_toArray, List.set_cons_zero, List.set_cons_succ]) | (refine Sq.seq_call 124 rfl (Sq.wanted_none rfl) (fun X => ?_) (fun X hX => (TY.out _ hX.at0).mono fun e w' h => ⟨h.1, hX.call h.2⟩) ?_; (focus (first | (go_simp; done) | (go_simp; rfl))); simp only [Act.put, Act.eval, Array.getD_eq_getD_getElem?, List.getElem?_toArray, List.getElem?_cons_zero, List.getElem?_cons_succ, Option.getD_some, List.setIfInBounds_toArray, List.set_cons_zero, List.set_cons_succ]) | (refine' Sq.seq_pure rfl (fun X => _) _; rotate_left; (first | (go_simp; done) | (go_simp; rfl)); simp only [Act.put, Act.eval, Array.getD_eq_getD_getElem?, List.getElem?_toArray, List.getElem?_cons_zero, List.getElem?_cons_succ, Option.getD_some, List.setIfInBounds_toArray, List.set_cons_zero, List.set_cons_succ]))); refine Sq.seq_nil ?_; refine hK.out _ fun w1 hk => ?_; clear hK; replace ST := Lib.hid hk; clear hk; dsimp only [List.drop])
    | (go_at_call 123; (with_reducible refine (TB.out _).mono ?_); rintro e w' ⟨rfl, hb⟩; replace ST := Lib.hid (ST.out.call hb); clear hb)
    | ((with_reducible refine Sq.region (id := 1) (I := fun X => Kn _ _ X _) ?hm14 9 ST.out.drew ?hp14 ?hs14); (case hm14 => rfl); (case hp14 => kernel_rfl); intro ops K hops hK; clear hops; dsimp only [List.take]; (repeat (first | (refine Sq.seq_move rfl rfl ?_; simp only [Act.put, Act.eval, Array.getD_eq_getD_getElem?, List.getElem?_toArray, List.getElem?_cons_zero, List.getElem?_cons_succ, Option.getD_some, List.setIfInBounds_toArray, List.set_cons_zero, List.set_cons_succ]) | (refine Sq.seq_check rfl rfl rfl ?_; simp only [Act.put, Act.eval, Array.getD_eq_getD_getElem?, List.getElem?_toArray, List.getElem?_cons_zero, List.getElem?_cons_succ, Option.getD_some, List.setIfInBounds_toArray, List.set_cons_zero, List.set_cons_succ]) | (refine Sq.seq_load (t := 22) (fun X hX => hX.at0) (Sq.wanted_none rfl) rfl rfl pl_u64 (sv_ok _ (by decide)) ?_; simp only [Act.put, Act.eval, Array.getD_eq_getD_getElem?, List.getElem?_toArray, List.getElem?_cons_zero, List.getElem?_cons_succ, Option.getD_some, List.setIfInBounds_toArray, List.set_cons_zero, List.set_cons_succ, sv_dry, sv_now, sv_k, sv_fn, sv_rd, sv_rs1, sv_rs2, sv_imm, sv_sz, sv_sg, sv_long, sv_bits, sv_ek, sv_ea, sv_eva, sv_egpa, sv_ewalk, sv_ewrote, sv_was_pc, sv_was_user, sv_was_on, sv_was_spie, sv_was_spp, sv_was_sum, sv_was_mxr, sv_was_rsv, sv_was_stvec, sv_was_sscr, sv_was_sepc, sv_was_scause, sv_was_stval, sv_was_sie, sv_was_sip, sv_was_satp, sv_was_resv, sv_h_pc, sv_h_user, sv_h_on, sv_h_spie, sv_h_spp, sv_h_sum, sv_h_mxr, sv_h_rsv, sv_h_stvec, sv_h_sscr, sv_h_sepc, sv_h_scause, sv_h_stval, sv_h_sie, sv_h_sip, sv_h_satp, sv_h_resv, sv_c]) | (refine Sq.seq_load (t := 3) (fun X hX => hX.at0) (Sq.wanted_none rfl) rfl rfl pl_int (sv_ok _ (by decide)) ?_; simp only [Act.put, Act.eval, Array.getD_eq_getD_getElem?, List.getElem?_toArray, List.getElem?_cons_zero, List.getElem?_cons_succ, Option.getD_some, List.setIfInBounds_toArray, List.set_cons_zero, List.set_cons_succ, sv_dry, sv_now, sv_k, sv_fn, sv_rd, sv_rs1, sv_rs2, sv_imm, sv_sz, sv_sg, sv_long, sv_bits, sv_ek, sv_ea, sv_eva, sv_egpa, sv_ewalk, sv_ewrote, sv_was_pc, sv_was_user, sv_was_on, sv_was_spie, sv_was_spp, sv_was_sum, sv_was_mxr, sv_was_rsv, sv_was_stvec, sv_was_sscr, sv_was_sepc, sv_was_scause, sv_was_stval, sv_was_sie, sv_was_sip, sv_was_satp, sv_was_resv, sv_h_pc, sv_h_user, sv_h_on, sv_h_spie, sv_h_spp, sv_h_sum, sv_h_mxr, sv_h_rsv, sv_h_stvec, sv_h_sscr, sv_h_sepc, sv_h_scause, sv_h_stval, sv_h_sie, sv_h_sip, sv_h_satp, sv_h_resv, sv_c]) | (refine Sq.seq_load (t := 4) (fun X hX => hX.at0) (Sq.wanted_none rfl) rfl rfl pl_bool (sv_ok _ (by decide)) ?_; simp only [Act.put, Act.eval, Array.getD_eq_getD_getElem?, List.getElem?_toArray, List.getElem?_cons_zero, List.getElem?_cons_succ, Option.getD_some, List.setIfInBounds_toArray, List.set_cons_zero, List.set_cons_succ, sv_dry, sv_now, sv_k, sv_fn, sv_rd, sv_rs1, sv_rs2, sv_imm, sv_sz, sv_sg, sv_long, sv_bits, sv_ek, sv_ea, sv_eva, sv_egpa, sv_ewalk, sv_ewrote, sv_was_pc, sv_was_user, sv_was_on, sv_was_spie, sv_was_spp, sv_was_sum, sv_was_mxr, sv_was_rsv, sv_was_stvec, sv_was_sscr, sv_was_sepc, sv_was_scause, sv_was_stval, sv_was_sie, sv_was_sip, sv_was_satp, sv_was_resv, sv_h_pc, sv_h_user, sv_h_on, sv_h_spie, sv_h_spp, sv_h_sum, sv_h_mxr, sv_h_rsv, sv_h_stvec, sv_h_sscr, sv_h_sepc, sv_h_scause, sv_h_stval, sv_h_sie, sv_h_sip, sv_h_satp, sv_h_resv, sv_c]) | (refine Sq.seq_call 120 rfl (Sq.wanted_none rfl) (fun X => ?_) (fun X hX => (imm_any hX.at0).mono fun e w' h => ⟨h.1, hX.call h.2⟩) ?_; (focus (first | (go_simp; done) | (go_simp; rfl))); simp only [Act.put, Act.eval, Array.getD_eq_getD_getElem?, List.getElem?_toArray, List.getElem?_cons_zero, List.getElem?_cons_succ, Option.getD_some, List.setIfInBounds_toArray, List.set_cons_zero, List.set_cons_succ, e0]) | (refine' Sq.seq_pure rfl (fun X => _) _; rotate_left; (first | (go_simp; done) | (go_simp; rfl)); simp only [Act.put, Act.eval, Array.getD_eq_getD_getElem?, List.getElem?_toArray, List.getElem?_cons_zero, List.getElem?_cons_succ, Option.getD_some, List.setIfInBounds_toArray, List.set_cons_zero, List.set_cons_succ, e0]))); refine Sq.seq_nil ?_; refine hK.out _ fun w1 hk => ?_; clear hK; replace ST := Lib.hid hk; clear hk; dsimp only [List.drop])
    | ((with_reducible refine Step.gate_store (t := 22) rfl ?_); refine Step.store ST.out.at0 rfl rfl rfl rfl rfl pl_u64 rfl rfl ?_; intro w3 nb m; simp [go_sem, sst_dry, sst_now, sst_k, sst_fn, sst_rd, sst_rs1, sst_rs2, sst_imm, sst_sz, sst_sg, sst_long, sst_bits, sst_ek, sst_ea, sst_eva, sst_egpa, sst_ewalk, sst_ewrote, sst_h_pc, sst_h_user, sst_h_on, sst_h_spie, sst_h_spp, sst_h_sum, sst_h_mxr, sst_h_rsv, sst_h_stvec, sst_h_sscr, sst_h_sepc, sst_h_scause, sst_h_stval, sst_h_sie, sst_h_sip, sst_h_satp, sst_h_resv, sst_h_x0] at nb; replace ST := Lib.hid (ST.out.set0 nb m); clear nb m)
    | ((with_reducible refine Step.gate_store (t := 3) rfl ?_); refine Step.store ST.out.at0 rfl rfl rfl rfl rfl pl_int rfl rfl ?_; intro w3 nb m; simp [go_sem, sst_dry, sst_now, sst_k, sst_fn, sst_rd, sst_rs1, sst_rs2, sst_imm, sst_sz, sst_sg, sst_long, sst_bits, sst_ek, sst_ea, sst_eva, sst_egpa, sst_ewalk, sst_ewrote, sst_h_pc, sst_h_user, sst_h_on, sst_h_spie, sst_h_spp, sst_h_sum, sst_h_mxr, sst_h_rsv, sst_h_stvec, sst_h_sscr, sst_h_sepc, sst_h_scause, sst_h_stval, sst_h_sie, sst_h_sip, sst_h_satp, sst_h_resv, sst_h_x0] at nb; replace ST := Lib.hid (ST.out.set0 nb m); clear nb m)
    | ((with_reducible refine Step.gate_store (t := 4) rfl ?_); refine Step.store ST.out.at0 rfl rfl rfl rfl rfl pl_bool rfl rfl ?_; intro w3 nb m; simp [go_sem, sst_dry, sst_now, sst_k, sst_fn, sst_rd, sst_rs1, sst_rs2, sst_imm, sst_sz, sst_sg, sst_long, sst_bits, sst_ek, sst_ea, sst_eva, sst_egpa, sst_ewalk, sst_ewrote, sst_h_pc, sst_h_user, sst_h_on, sst_h_spie, sst_h_spp, sst_h_sum, sst_h_mxr, sst_h_rsv, sst_h_stvec, sst_h_sscr, sst_h_sepc, sst_h_scause, sst_h_stval, sst_h_sie, sst_h_sip, sst_h_satp, sst_h_resv, sst_h_x0] at nb; replace ST := Lib.hid (ST.out.set0 nb m); clear nb m))
  all_goals (first | go_ret | go_end0 | refine bodyPost_ret (results_none rfl _ _ _) rfl ?_)
  all_goals (exact ⟨rfl, ST.out.at0, ST.out.mod⟩)
theorem sbranch_any {W : World} {g : Nat} {s : Stp} {n1 n2 : Nat} (hb : Blk W g (sc s) TS) (hr1 : s.rs1 = n1) (hn1 : n1 < 32) (hr2 : s.rs2 = n2) (hn2 : n2 < 32) : Calls Tryz.prog 91 #[.pointer (some ⟨g, 0, none⟩)] W fun e w' => e = .returned (.tuple #[]) ∧ Blk w' g (sc (branchP s n1 n2)) TS ∧ Mod (One g) W w' := by
  unfold branchP
  cases hv : brV s.fn (s.was.x n1) (s.was.x n2) with
  | true => exact sbranch_true hb hr1 hn1 hr2 hn2 hv
  | false => exact sbranch_false hb hr1 hn1 hr2 hn2 hv
end Go.Proofs.YthkodjkkcgdmfaaGreat.Hart
end
section
namespace Go.Proofs.YthkodjkkcgdmfaaGreat.Enc
open Go Go.RowKit Go.Proofs.YthkodjkkcgdmfaaGreat.Step
set_option linter.unusedVariables false
set_option linter.unusedSimpArgs false
set_option maxRecDepth 100000
theorem plain3 (a rd rs1 rs2 m : Int) (w : World) : Calls Tryz.prog 144 #[.int .u32 a, .agg #[.int .i64 3, .int .i64 0, .int .i64 rd, .int .i64 rs1, .int .i64 rs2, .int .i64 m, .int .i64 0, .bool false]] w fun e w' => e = .returned (.tuple #[.agg #[.int .i64 3, .int .i64 0, .int .i64 rd, .int .i64 rs1, .int .i64 rs2, .int .i64 m, .int .i64 0, .bool false], .bool true]) ∧ Below w.heap.size w w' := by
  go_enter Tryz.func144, Tryz.ntmps144
  go_wp2_with (first
    | (go_at_call 137; (with_reducible refine (T2.out _).mono ?_); rintro e w' ⟨rfl, hb⟩; (try (have pb_ := Lib.hid (PB.out.below hb); clear PB; have PB := pb_)); have st_ := Lib.hid (ST.out.call hb); clear ST hb; have ST := st_)
    | ((with_reducible refine Step.gate_box (t := 44) rfl ?_); refine Step.fresh (cs := #[.int .i64 3, .int .i64 0, .int .i64 rd, .int .i64 rs1, .int .i64 rs2, .int .i64 m, .int .i64 0, .bool false]) (T := 44) rfl ?hr ?_; (case hr => first | (go_simp; done) | (go_simp; rfl)); intro g1 w1 b hg hb; have ST := Lib.hid (S1.made b hg hb); clear b hg hb)
    | ((with_reducible refine Step.gate_alloc (t := 44) rfl ?_); refine Step.freshAlloc rfl rfl (alloc_agg zero_inst) ?_; intro g2 w2 b hg hb; have st_ := Lib.hid (ST.out.more b hg hb); clear ST b hg hb; have ST := st_)
    | ((with_reducible refine Step.gate_store (t := 3) rfl ?_); refine Step.store ST.out.one rfl rfl rfl rfl rfl pl_int rfl rfl ?_; intro w3 nb m; have st_ := Lib.hid (ST.out.set1 nb m); clear ST nb m; have ST := st_)
    | ((with_reducible refine Step.gate_store (t := 4) rfl ?_); refine Step.store ST.out.one rfl rfl rfl rfl rfl pl_bool rfl rfl ?_; intro w3 nb m; have st_ := Lib.hid (ST.out.set1 nb m); clear ST nb m; have ST := st_)
    | ((with_reducible refine Step.gate_store (t := 44) rfl ?_); refine Step.storeAll ST.out.one rfl rfl rfl rfl rfl size_inst rfl rfl ?_; intro w3 nb m; have st_ := Lib.hid (ST.out.set1 nb m); clear ST nb m; have ST := st_)
    | ((with_reducible refine Step.gate_load (t := 3) rfl ?_); refine Step.load ST.out.one rfl rfl rfl pl_int rfl ?_)
    | ((with_reducible refine Step.gate_load (t := 4) rfl ?_); refine Step.load ST.out.one rfl rfl rfl pl_bool rfl ?_)
    | ((with_reducible refine Step.gate_load (t := 44) rfl ?_); refine Step.loadAll ST.out.one rfl rfl rfl Tryz.underlying44 rfl size_inst ?_)
    | ((with_reducible refine Step.gate_store (t := 3) rfl ?_); refine Step.store ST.out.two rfl rfl rfl rfl rfl pl_int rfl rfl ?_; intro w3 nb m; have st_ := Lib.hid (ST.out.set2 nb m); clear ST nb m; have ST := st_)
    | ((with_reducible refine Step.gate_store (t := 4) rfl ?_); refine Step.store ST.out.two rfl rfl rfl rfl rfl pl_bool rfl rfl ?_; intro w3 nb m; have st_ := Lib.hid (ST.out.set2 nb m); clear ST nb m; have ST := st_)
    | ((with_reducible refine Step.gate_store (t := 44) rfl ?_); refine Step.storeAll ST.out.two rfl rfl rfl rfl rfl size_inst rfl rfl ?_; intro w3 nb m; have st_ := Lib.hid (ST.out.set2 nb m); clear ST nb m; have ST := st_)
    | ((with_reducible refine Step.gate_load (t := 3) rfl ?_); refine Step.load ST.out.two rfl rfl rfl pl_int rfl ?_)
    | ((with_reducible refine Step.gate_load (t := 4) rfl ?_); refine Step.load ST.out.two rfl rfl rfl pl_bool rfl ?_)
    | ((with_reducible refine Step.gate_load (t := 44) rfl ?_); refine Step.loadAll ST.out.two rfl rfl rfl Tryz.underlying44 rfl size_inst ?_))
  refine bodyPost_ret (results_row_tmp rfl _ _ g2 _ _ _ rfl ST.out.two Tryz.underlying44 rfl size_inst) rfl ⟨rfl, ST.out.below⟩
theorem plain5 (a rd rs1 rs2 m : Int) (ha : W32 a) (w : World) : Calls Tryz.prog 144 #[.int .u32 a, .agg #[.int .i64 5, .int .i64 0, .int .i64 rd, .int .i64 rs1, .int .i64 rs2, .int .i64 m, .int .i64 0, .bool false]] w fun e w' => e = .returned (.tuple #[.agg #[.int .i64 5, .int .i64 ((pk ([1, 2, 0, 0, 3, 4, 5, 6] : List Int) (fd a 14 12))), .int .i64 rd, .int .i64 rs1, .int .i64 rs2, .int .i64 m, .int .i64 0, .bool false], .bool ((pk ([1, 2, 0, 0, 3, 4, 5, 6] : List Int) (fd a 14 12)) != 0)]) ∧ Below w.heap.size w w' := by
  have T2 := Lib.hid (fun w => calls_below (f3_any a ha w))
  have HX := Lib.hid (small (fd_lit (a := a) (h := 14) (l := 12) (n := 8) rfl) (by decide))
  generalize fd a 14 12 = x at *
  have p_ := @pick_any
  obtain ⟨u, hu⟩ : ∃ u, (pk ([1, 2, 0, 0, 3, 4, 5, 6] : List Int) x) = u := ⟨_, rfl⟩
  rw [hu]
  go_enter Tryz.func144, Tryz.ntmps144
  go_wp2_with (first
    | (go_at_call 137; (with_reducible refine (T2.out _).mono ?_); rintro e w' ⟨rfl, hb⟩; (try (have pb_ := Lib.hid (PB.out.below hb); clear PB; have PB := pb_)); have st_ := Lib.hid (ST.out.call hb); clear ST hb; have ST := st_)
    | ((with_reducible refine Step.gate_box (t := 44) rfl ?_); refine Step.fresh (cs := #[.int .i64 5, .int .i64 0, .int .i64 rd, .int .i64 rs1, .int .i64 rs2, .int .i64 m, .int .i64 0, .bool false]) (T := 44) rfl ?hr ?_; (case hr => first | (go_simp; done) | (go_simp; rfl)); intro g1 w1 b hg hb; have ST := Lib.hid (S1.made b hg hb); clear b hg hb)
    | ((with_reducible refine Step.gate_alloc (t := 44) rfl ?_); refine Step.freshAlloc rfl rfl (alloc_agg zero_inst) ?_; intro g2 w2 b hg hb; have st_ := Lib.hid (ST.out.more b hg hb); clear ST b hg hb; have ST := st_)
    | ((with_reducible refine Step.gate_store (t := 3) rfl ?_); refine Step.store ST.out.one rfl rfl rfl rfl rfl pl_int rfl rfl ?_; intro w3 nb m; have st_ := Lib.hid (ST.out.set1 nb m); clear ST nb m; have ST := st_)
    | ((with_reducible refine Step.gate_store (t := 4) rfl ?_); refine Step.store ST.out.one rfl rfl rfl rfl rfl pl_bool rfl rfl ?_; intro w3 nb m; have st_ := Lib.hid (ST.out.set1 nb m); clear ST nb m; have ST := st_)
    | ((with_reducible refine Step.gate_store (t := 44) rfl ?_); refine Step.storeAll ST.out.one rfl rfl rfl rfl rfl size_inst rfl rfl ?_; intro w3 nb m; have st_ := Lib.hid (ST.out.set1 nb m); clear ST nb m; have ST := st_)
    | ((with_reducible refine Step.gate_load (t := 3) rfl ?_); refine Step.load ST.out.one rfl rfl rfl pl_int rfl ?_)
    | ((with_reducible refine Step.gate_load (t := 4) rfl ?_); refine Step.load ST.out.one rfl rfl rfl pl_bool rfl ?_)
    | ((with_reducible refine Step.gate_load (t := 44) rfl ?_); refine Step.loadAll ST.out.one rfl rfl rfl Tryz.underlying44 rfl size_inst ?_)
    | ((with_reducible refine Step.gate_store (t := 3) rfl ?_); refine Step.store ST.out.two rfl rfl rfl rfl rfl pl_int rfl rfl ?_; intro w3 nb m; have st_ := Lib.hid (ST.out.set2 nb m); clear ST nb m; have ST := st_)
    | ((with_reducible refine Step.gate_store (t := 4) rfl ?_); refine Step.store ST.out.two rfl rfl rfl rfl rfl pl_bool rfl rfl ?_; intro w3 nb m; have st_ := Lib.hid (ST.out.set2 nb m); clear ST nb m; have ST := st_)
    | ((with_reducible refine Step.gate_store (t := 44) rfl ?_); refine Step.storeAll ST.out.two rfl rfl rfl rfl rfl size_inst rfl rfl ?_; intro w3 nb m; have st_ := Lib.hid (ST.out.set2 nb m); clear ST nb m; have ST := st_)
    | ((with_reducible refine Step.gate_load (t := 3) rfl ?_); refine Step.load ST.out.two rfl rfl rfl pl_int rfl ?_)
    | ((with_reducible refine Step.gate_load (t := 4) rfl ?_); refine Step.load ST.out.two rfl rfl rfl pl_bool rfl ?_)
    | ((with_reducible refine Step.gate_load (t := 44) rfl ?_); refine Step.loadAll ST.out.two rfl rfl rfl Tryz.underlying44 rfl size_inst ?_)
    | ((with_reducible refine Step.gate_build (t := 53) rfl ?_); refine Step.freshSlice (cs := #[.int .i64 1, .int .i64 2, .int .i64 0, .int .i64 0, .int .i64 3, .int .i64 4, .int .i64 5, .int .i64 6]) (T := 3) (n := 8) (m := 8) rfl ?hr ?_; (case hr => first | (go_simp; done) | (go_simp; rfl)); intro g9 w1 b hg hb; have PB := Lib.hid (show Blk w1 g9 (Enc.ints ([1, 2, 0, 0, 3, 4, 5, 6] : List Int)) _ from b); have st_ := Lib.hid (ST.out.call hb); clear ST b hb hg; have ST := st_)
    | (go_at_call 161; have pk_ := pick_any (n := 8) PB.out ([1, 2, 0, 0, 3, 4, 5, 6] : List Int) rfl rfl (by decide) x HX.out; (with_reducible refine pk_.mono ?_); clear pk_; (try rw [hu]); rintro e w' ⟨rfl, hb⟩; clear PB; have st_ := Lib.hid (ST.out.call hb); clear ST hb; have ST := st_)
    | ((with_reducible refine two_region (id := 10) (fin := ?fin_2) (ok := ?ok_2) (k := 4) (dn := #[.int .i64 5, .int .i64 u, .int .i64 rd, .int .i64 rs1, .int .i64 rs2, .int .i64 m, .int .i64 0, .bool false]) ST.out ?hm_2 [(26, .agg #[.int .i64 5, .int .i64 u, .int .i64 rd, .int .i64 rs1, .int .i64 rs2, .int .i64 m, .int .i64 0, .bool false]), (27, .pointer (some ⟨g1, 1, none⟩)), (28, .int .i64 u), (29, .bool (u != 0)), (5, .bool (u != 0))] rfl ?hord_2 ?hin_2 ?hfin_2 ?hk_2 ?hset_2 ?hdo_2 ?_); (case hm_2 => rfl); (case hord_2 => kernel_rfl); (case hin_2 => kernel_rfl); (case hfin_2 => (simp only [Reg.puts, Act.put, List.setIfInBounds_toArray, List.set_cons_zero, List.set_cons_succ]; try rfl)); (case hk_2 => rfl); (case hset_2 => exact sets_all rfl rfl rfl rfl rfl size_inst rfl); (case hdo_2 => ((repeat' (first | exact stays_nil | refine stays_cons ?_ ?_)); all_goals (first | exact stays_loadAll rfl rfl rfl Tryz.underlying44 rfl size_inst rfl | exact stays_load rfl rfl rfl pl_int rfl rfl | exact stays_load rfl rfl rfl pl_bool rfl rfl | (exact stays_slot rfl rfl (fun X => by first | (go_simp; done) | (go_simp; rfl)))))); intro w' st_; clear ST; have ST := Lib.hid st_; clear st_))
  refine bodyPost_ret (results_row_tmp rfl _ _ g2 _ _ _ rfl ST.out.two Tryz.underlying44 rfl size_inst) rfl ⟨rfl, ST.out.below⟩
end Go.Proofs.YthkodjkkcgdmfaaGreat.Enc
end
section
namespace Go.Proofs.YthkodjkkcgdmfaaGreat.Enc
open Go Go.RowKit Go.Proofs.YthkodjkkcgdmfaaGreat.Step
set_option linter.unusedVariables false
set_option linter.unusedSimpArgs false
set_option maxRecDepth 100000
theorem look_111 {W : World} {m : Nat} (h : W.heap[m]? = some (.map (rowE 11) 11)) : (Instr.lookup 188 (.map (some m)) (.int .i64 111) true).run Tryz.prog W = .ok (.tuple #[.agg #[.int .i64 3, .func (.func 163) #[] #[], .bool true, .bool false, .bool false], .bool true]) W :=
  MapInt.run_look Tryz.underlying188 Tryz.underlying3 (i := 2) (v := .agg #[.int .i64 3, .func (.func 163) #[] #[], .bool true, .bool false, .bool false]) rfl W h
theorem look_99 {W : World} {m : Nat} (h : W.heap[m]? = some (.map (rowE 11) 11)) : (Instr.lookup 188 (.map (some m)) (.int .i64 99) true).run Tryz.prog W = .ok (.tuple #[.agg #[.int .i64 5, .func (.func 165) #[] #[], .bool false, .bool true, .bool true], .bool true]) W :=
  MapInt.run_look Tryz.underlying188 Tryz.underlying3 (i := 4) (v := .agg #[.int .i64 5, .func (.func 165) #[] #[], .bool false, .bool true, .bool true]) rfl W h
set_option maxHeartbeats 2000000 in
theorem decode_111 (a m rd rs1 rs2 r1 r2 r3 r4 r5 r6 r7 : Int) (r8 r9 : Bool) (T0 : Hid (∀ w, Calls Tryz.prog 136 #[.int .u32 a] w fun e w' => e = .returned (.int .i64 111) ∧ Below w.heap.size w w')) (T1 : Hid (∀ w, Calls Tryz.prog 163 #[.int .u32 a] w fun e w' => e = .returned (.int .i64 m) ∧ Below w.heap.size w w')) (T2 : Hid (∀ w, Calls Tryz.prog 141 #[.int .u32 a] w fun e w' => e = .returned (.int .i64 rd) ∧ Below w.heap.size w w')) (T3 : Hid (∀ w, Calls Tryz.prog 142 #[.int .u32 a] w fun e w' => e = .returned (.int .i64 rs1) ∧ Below w.heap.size w w')) (T4 : Hid (∀ w, Calls Tryz.prog 143 #[.int .u32 a] w fun e w' => e = .returned (.int .i64 rs2) ∧ Below w.heap.size w w'))
    (T5 : Hid (∀ w, Calls Tryz.prog 144 #[.int .u32 a, .agg #[.int .i64 3, .int .i64 0, .int .i64 rd, .int .i64 0, .int .i64 0, .int .i64 m, .int .i64 0, .bool false]] w fun e w' => e = .returned (.tuple #[.agg #[.int .i64 r1, .int .i64 r2, .int .i64 r3, .int .i64 r4, .int .i64 r5, .int .i64 r6, .int .i64 r7, .bool r8], .bool r9]) ∧ Below w.heap.size w w')) (w : World) :
    Calls Tryz.prog 110 #[.int .u32 a] w fun e w' => e = .returned (.tuple #[.agg #[.int .i64 r1, .int .i64 r2, .int .i64 r3, .int .i64 r4, .int .i64 r5, .int .i64 r6, .int .i64 r7, .bool r8], .bool r9]) ∧ Below w.heap.size w w' := by
  go_enter Tryz.func110, Tryz.ntmps110
  go_wp2_with (first
    | (go_at_call 136; (with_reducible refine (T0.out _).mono ?_); rintro e w' ⟨rfl, hb⟩; (try (have pr_ := Lib.hid (PR.out.call hb); clear PR; have PR := pr_)); (try (have pm_ := Lib.hid (map_below PM.out hb); clear PM; have PM := pm_)); (try (have pb_ := Lib.hid (PB.out.below hb); clear PB; have PB := pb_)); have st_ := Lib.hid (ST.out.call hb); clear ST hb; have ST := st_)
    | (go_at_call 141; (with_reducible refine (T2.out _).mono ?_); rintro e w' ⟨rfl, hb⟩; (try (have pr_ := Lib.hid (PR.out.call hb); clear PR; have PR := pr_)); (try (have pm_ := Lib.hid (map_below PM.out hb); clear PM; have PM := pm_)); (try (have pb_ := Lib.hid (PB.out.below hb); clear PB; have PB := pb_)); have st_ := Lib.hid (ST.out.call hb); clear ST hb; have ST := st_)
    | (go_at_call 142; (with_reducible refine (T3.out _).mono ?_); rintro e w' ⟨rfl, hb⟩; (try (have pr_ := Lib.hid (PR.out.call hb); clear PR; have PR := pr_)); (try (have pm_ := Lib.hid (map_below PM.out hb); clear PM; have PM := pm_)); (try (have pb_ := Lib.hid (PB.out.below hb); clear PB; have PB := pb_)); have st_ := Lib.hid (ST.out.call hb); clear ST hb; have ST := st_)
    | (go_at_call 143; (with_reducible refine (T4.out _).mono ?_); rintro e w' ⟨rfl, hb⟩; (try (have pr_ := Lib.hid (PR.out.call hb); clear PR; have PR := pr_)); (try (have pm_ := Lib.hid (map_below PM.out hb); clear PM; have PM := pm_)); (try (have pb_ := Lib.hid (PB.out.below hb); clear PB; have PB := pb_)); have st_ := Lib.hid (ST.out.call hb); clear ST hb; have ST := st_)
    | (go_at_call 144; (with_reducible refine (T5.out _).mono ?_); rintro e w' ⟨rfl, hb⟩; (try (have pr_ := Lib.hid (PR.out.call hb); clear PR; have PR := pr_)); (try (have pm_ := Lib.hid (map_below PM.out hb); clear PM; have PM := pm_)); (try (have pb_ := Lib.hid (PB.out.below hb); clear PB; have PB := pb_)); have st_ := Lib.hid (ST.out.call hb); clear ST hb; have ST := st_)
    | (go_at_call 140; (with_reducible refine (rows_calls _).mono ?_); rintro e w' ⟨mp, rfl, hb, hm⟩; have st_ := Lib.hid (ST.out.call hb); clear ST hb; have ST := st_; have PM := Lib.hid hm; clear hm)
    | ((with_reducible refine Step.gate_lookup (t := 188) rfl ?_); refine MapInt.wpList_look rfl _ _ _ _ rfl _ _ _ rfl rfl (look_111 PM.out) ?_)
    | ((with_reducible refine Step.gate_alloc (t := 186) rfl ?_); refine Step.freshAlloc rfl rfl (alloc_agg zero_row) ?_; intro q w2 b hg hb; clear PM; have PR := Lib.hid (R1.mk b (Nat.le_trans ST.out.below.size hg)); have st_ := Lib.hid (ST.out.call hb); clear ST b hg hb; have ST := st_)
    | ((with_reducible refine Step.gate_alloc (t := 44) rfl ?_); refine Step.freshAlloc rfl rfl (alloc_agg zero_inst) ?_; intro g1 w1 b hg hb; have ST := Lib.hid (S1.made b hg hb); clear b hg hb)
    | ((with_reducible refine Step.gate_store (t := 186) rfl ?_); refine Step.storeAll PR.out.blk rfl rfl rfl rfl rfl size_row rfl rfl ?_; intro w3 nb m; have st_ := Lib.hid (ST.out.other PR.out m); have pr_ := Lib.hid (R1.mk nb PR.out.lo); clear ST PR nb m; have ST := st_; have PR := pr_)
    | ((with_reducible refine Calm.region_alloc (id := 11) (fin := ?fin_3) ?hm_3 8 7 6 ?o1_3 (.cells #[.int .i64 0, .int .i64 0, .int .i64 0, .int .i64 0, .int .i64 0, .int .i64 0, .int .i64 0, .bool false] 44 (0, 0)) [(37, .pointer (some ⟨q, 0, none⟩)), (38, .int .i64 3), (39, .pointer (some ⟨q, 1, none⟩)), (40, .func (.func 163) #[] #[]), (41, .int .u32 a), (42, .int .i64 m), (43, .agg #[.int .i64 3, .int .i64 0, .int .i64 0, .int .i64 0, .int .i64 0, .int .i64 m, .int .i64 0, .bool false])] ?hp_3 ?hin_3 ?hsolo_3 ?hoa_3 (by decide) ?hda_3 ?hga_3 ?hrun_3 ?hfin_3 ?hcalm_3 ?_); (case hm_3 => rfl); (case hoa_3 => rfl); (case hp_3 => kernel_rfl); (case hin_3 => kernel_rfl); (case hsolo_3 => kernel_rfl); (case hda_3 => rfl); (case hga_3 => rfl); (case hrun_3 => exact alloc_run rfl zero_inst); (case hfin_3 => (simp only [Reg.puts, Act.put, List.setIfInBounds_toArray, List.set_cons_zero, List.set_cons_succ]; try rfl)); (case hcalm_3 => (simp only [List.take, List.eraseIdx]; (repeat' (first | exact Calm.calm_nil | refine Calm.calm_cons ?_ ?_)); all_goals (first | exact calm_callg rfl rfl (fun X => by go_simp) (fun X => T1.out X) rfl | exact calm_load PR.out.blk rfl rfl rfl pl_int rfl rfl | exact calm_load PR.out.blk rfl rfl rfl pl_func rfl rfl | exact calm_slot rfl rfl (fun X => by first | (go_simp; done) | (go_simp; rfl))))); intro g2 w1 hg hlt hb ho; have st_ := Lib.hid (ST.out.more ⟨ho⟩ hg hb); have pr_ := Lib.hid (PR.out.call hb); clear ST PR; have ST := st_; have PR := pr_; clear hg hlt hb ho; simp only [List.drop, Calm.ptr, Act.put, List.setIfInBounds_toArray, List.set_cons_zero, List.set_cons_succ])
    | ((with_reducible refine Step.gate_load (t := 3) rfl ?_); refine Step.load PR.out.blk rfl rfl rfl pl_int rfl ?_)
    | ((with_reducible refine Step.gate_load (t := 4) rfl ?_); refine Step.load PR.out.blk rfl rfl rfl pl_bool rfl ?_)
    | ((with_reducible refine Step.gate_load (t := 184) rfl ?_); refine Step.load PR.out.blk rfl rfl rfl pl_func rfl ?_)
    | ((with_reducible refine Step.gate_store (t := 3) rfl ?_); refine Step.store ST.out.one rfl rfl rfl rfl rfl pl_int rfl rfl ?_; intro w3 nb m; (try (have pr_ := Lib.hid (PR.out.keep ST.out.one m); clear PR; have PR := pr_)); have st_ := Lib.hid (ST.out.set1 nb m); clear ST nb m; have ST := st_)
    | ((with_reducible refine Step.gate_store (t := 4) rfl ?_); refine Step.store ST.out.one rfl rfl rfl rfl rfl pl_bool rfl rfl ?_; intro w3 nb m; (try (have pr_ := Lib.hid (PR.out.keep ST.out.one m); clear PR; have PR := pr_)); have st_ := Lib.hid (ST.out.set1 nb m); clear ST nb m; have ST := st_)
    | ((with_reducible refine Step.gate_store (t := 44) rfl ?_); refine Step.storeAll ST.out.one rfl rfl rfl rfl rfl size_inst rfl rfl ?_; intro w3 nb m; (try (have pr_ := Lib.hid (PR.out.keep ST.out.one m); clear PR; have PR := pr_)); have st_ := Lib.hid (ST.out.set1 nb m); clear ST nb m; have ST := st_)
    | ((with_reducible refine Step.gate_load (t := 3) rfl ?_); refine Step.load ST.out.one rfl rfl rfl pl_int rfl ?_)
    | ((with_reducible refine Step.gate_load (t := 4) rfl ?_); refine Step.load ST.out.one rfl rfl rfl pl_bool rfl ?_)
    | ((with_reducible refine Step.gate_load (t := 44) rfl ?_); refine Step.loadAll ST.out.one rfl rfl rfl Tryz.underlying44 rfl size_inst ?_)
    | ((with_reducible refine Step.gate_store (t := 3) rfl ?_); refine Step.store ST.out.two rfl rfl rfl rfl rfl pl_int rfl rfl ?_; intro w3 nb m; (try (have pr_ := Lib.hid (PR.out.keep ST.out.two m); clear PR; have PR := pr_)); have st_ := Lib.hid (ST.out.set2 nb m); clear ST nb m; have ST := st_)
    | ((with_reducible refine Step.gate_store (t := 4) rfl ?_); refine Step.store ST.out.two rfl rfl rfl rfl rfl pl_bool rfl rfl ?_; intro w3 nb m; (try (have pr_ := Lib.hid (PR.out.keep ST.out.two m); clear PR; have PR := pr_)); have st_ := Lib.hid (ST.out.set2 nb m); clear ST nb m; have ST := st_)
    | ((with_reducible refine Step.gate_store (t := 44) rfl ?_); refine Step.storeAll ST.out.two rfl rfl rfl rfl rfl size_inst rfl rfl ?_; intro w3 nb m; (try (have pr_ := Lib.hid (PR.out.keep ST.out.two m); clear PR; have PR := pr_)); have st_ := Lib.hid (ST.out.set2 nb m); clear ST nb m; have ST := st_)
    | ((with_reducible refine Step.gate_load (t := 3) rfl ?_); refine Step.load ST.out.two rfl rfl rfl pl_int rfl ?_)
    | ((with_reducible refine Step.gate_load (t := 4) rfl ?_); refine Step.load ST.out.two rfl rfl rfl pl_bool rfl ?_)
    | ((with_reducible refine Step.gate_load (t := 44) rfl ?_); refine Step.loadAll ST.out.two rfl rfl rfl Tryz.underlying44 rfl size_inst ?_))
  refine bodyPost_ret (results_row_tmp rfl _ _ g1 _ _ _ rfl ST.out.one Tryz.underlying44 rfl size_inst) rfl ⟨rfl, ST.out.below⟩
set_option maxHeartbeats 2000000 in
theorem decode_99 (a m rd rs1 rs2 r1 r2 r3 r4 r5 r6 r7 : Int) (r8 r9 : Bool) (T0 : Hid (∀ w, Calls Tryz.prog 136 #[.int .u32 a] w fun e w' => e = .returned (.int .i64 99) ∧ Below w.heap.size w w')) (T1 : Hid (∀ w, Calls Tryz.prog 165 #[.int .u32 a] w fun e w' => e = .returned (.int .i64 m) ∧ Below w.heap.size w w')) (T2 : Hid (∀ w, Calls Tryz.prog 141 #[.int .u32 a] w fun e w' => e = .returned (.int .i64 rd) ∧ Below w.heap.size w w')) (T3 : Hid (∀ w, Calls Tryz.prog 142 #[.int .u32 a] w fun e w' => e = .returned (.int .i64 rs1) ∧ Below w.heap.size w w')) (T4 : Hid (∀ w, Calls Tryz.prog 143 #[.int .u32 a] w fun e w' => e = .returned (.int .i64 rs2) ∧ Below w.heap.size w w'))
    (T5 : Hid (∀ w, Calls Tryz.prog 144 #[.int .u32 a, .agg #[.int .i64 5, .int .i64 0, .int .i64 0, .int .i64 rs1, .int .i64 rs2, .int .i64 m, .int .i64 0, .bool false]] w fun e w' => e = .returned (.tuple #[.agg #[.int .i64 r1, .int .i64 r2, .int .i64 r3, .int .i64 r4, .int .i64 r5, .int .i64 r6, .int .i64 r7, .bool r8], .bool r9]) ∧ Below w.heap.size w w')) (w : World) :
    Calls Tryz.prog 110 #[.int .u32 a] w fun e w' => e = .returned (.tuple #[.agg #[.int .i64 r1, .int .i64 r2, .int .i64 r3, .int .i64 r4, .int .i64 r5, .int .i64 r6, .int .i64 r7, .bool r8], .bool r9]) ∧ Below w.heap.size w w' := by
  go_enter Tryz.func110, Tryz.ntmps110
  go_wp2_with (first
    | (go_at_call 136; (with_reducible refine (T0.out _).mono ?_); rintro e w' ⟨rfl, hb⟩; (try (have pr_ := Lib.hid (PR.out.call hb); clear PR; have PR := pr_)); (try (have pm_ := Lib.hid (map_below PM.out hb); clear PM; have PM := pm_)); (try (have pb_ := Lib.hid (PB.out.below hb); clear PB; have PB := pb_)); have st_ := Lib.hid (ST.out.call hb); clear ST hb; have ST := st_)
    | (go_at_call 141; (with_reducible refine (T2.out _).mono ?_); rintro e w' ⟨rfl, hb⟩; (try (have pr_ := Lib.hid (PR.out.call hb); clear PR; have PR := pr_)); (try (have pm_ := Lib.hid (map_below PM.out hb); clear PM; have PM := pm_)); (try (have pb_ := Lib.hid (PB.out.below hb); clear PB; have PB := pb_)); have st_ := Lib.hid (ST.out.call hb); clear ST hb; have ST := st_)
    | (go_at_call 142; (with_reducible refine (T3.out _).mono ?_); rintro e w' ⟨rfl, hb⟩; (try (have pr_ := Lib.hid (PR.out.call hb); clear PR; have PR := pr_)); (try (have pm_ := Lib.hid (map_below PM.out hb); clear PM; have PM := pm_)); (try (have pb_ := Lib.hid (PB.out.below hb); clear PB; have PB := pb_)); have st_ := Lib.hid (ST.out.call hb); clear ST hb; have ST := st_)
    | (go_at_call 143; (with_reducible refine (T4.out _).mono ?_); rintro e w' ⟨rfl, hb⟩; (try (have pr_ := Lib.hid (PR.out.call hb); clear PR; have PR := pr_)); (try (have pm_ := Lib.hid (map_below PM.out hb); clear PM; have PM := pm_)); (try (have pb_ := Lib.hid (PB.out.below hb); clear PB; have PB := pb_)); have st_ := Lib.hid (ST.out.call hb); clear ST hb; have ST := st_)
    | (go_at_call 144; (with_reducible refine (T5.out _).mono ?_); rintro e w' ⟨rfl, hb⟩; (try (have pr_ := Lib.hid (PR.out.call hb); clear PR; have PR := pr_)); (try (have pm_ := Lib.hid (map_below PM.out hb); clear PM; have PM := pm_)); (try (have pb_ := Lib.hid (PB.out.below hb); clear PB; have PB := pb_)); have st_ := Lib.hid (ST.out.call hb); clear ST hb; have ST := st_)
    | (go_at_call 140; (with_reducible refine (rows_calls _).mono ?_); rintro e w' ⟨mp, rfl, hb, hm⟩; have st_ := Lib.hid (ST.out.call hb); clear ST hb; have ST := st_; have PM := Lib.hid hm; clear hm)
    | ((with_reducible refine Step.gate_lookup (t := 188) rfl ?_); refine MapInt.wpList_look rfl _ _ _ _ rfl _ _ _ rfl rfl (look_99 PM.out) ?_)
    | ((with_reducible refine Step.gate_alloc (t := 186) rfl ?_); refine Step.freshAlloc rfl rfl (alloc_agg zero_row) ?_; intro q w2 b hg hb; clear PM; have PR := Lib.hid (R1.mk b (Nat.le_trans ST.out.below.size hg)); have st_ := Lib.hid (ST.out.call hb); clear ST b hg hb; have ST := st_)
    | ((with_reducible refine Step.gate_alloc (t := 44) rfl ?_); refine Step.freshAlloc rfl rfl (alloc_agg zero_inst) ?_; intro g1 w1 b hg hb; have ST := Lib.hid (S1.made b hg hb); clear b hg hb)
    | ((with_reducible refine Step.gate_store (t := 186) rfl ?_); refine Step.storeAll PR.out.blk rfl rfl rfl rfl rfl size_row rfl rfl ?_; intro w3 nb m; have st_ := Lib.hid (ST.out.other PR.out m); have pr_ := Lib.hid (R1.mk nb PR.out.lo); clear ST PR nb m; have ST := st_; have PR := pr_)
    | ((with_reducible refine Calm.region_alloc (id := 11) (fin := ?fin_5) ?hm_5 8 7 6 ?o1_5 (.cells #[.int .i64 0, .int .i64 0, .int .i64 0, .int .i64 0, .int .i64 0, .int .i64 0, .int .i64 0, .bool false] 44 (0, 0)) [(37, .pointer (some ⟨q, 0, none⟩)), (38, .int .i64 5), (39, .pointer (some ⟨q, 1, none⟩)), (40, .func (.func 165) #[] #[]), (41, .int .u32 a), (42, .int .i64 m), (43, .agg #[.int .i64 5, .int .i64 0, .int .i64 0, .int .i64 0, .int .i64 0, .int .i64 m, .int .i64 0, .bool false])] ?hp_5 ?hin_5 ?hsolo_5 ?hoa_5 (by decide) ?hda_5 ?hga_5 ?hrun_5 ?hfin_5 ?hcalm_5 ?_); (case hm_5 => rfl); (case hoa_5 => rfl); (case hp_5 => kernel_rfl); (case hin_5 => kernel_rfl); (case hsolo_5 => kernel_rfl); (case hda_5 => rfl); (case hga_5 => rfl); (case hrun_5 => exact alloc_run rfl zero_inst); (case hfin_5 => (simp only [Reg.puts, Act.put, List.setIfInBounds_toArray, List.set_cons_zero, List.set_cons_succ]; try rfl)); (case hcalm_5 => (simp only [List.take, List.eraseIdx]; (repeat' (first | exact Calm.calm_nil | refine Calm.calm_cons ?_ ?_)); all_goals (first | exact calm_callg rfl rfl (fun X => by go_simp) (fun X => T1.out X) rfl | exact calm_load PR.out.blk rfl rfl rfl pl_int rfl rfl | exact calm_load PR.out.blk rfl rfl rfl pl_func rfl rfl | exact calm_slot rfl rfl (fun X => by first | (go_simp; done) | (go_simp; rfl))))); intro g2 w1 hg hlt hb ho; have st_ := Lib.hid (ST.out.more ⟨ho⟩ hg hb); have pr_ := Lib.hid (PR.out.call hb); clear ST PR; have ST := st_; have PR := pr_; clear hg hlt hb ho; simp only [List.drop, Calm.ptr, Act.put, List.setIfInBounds_toArray, List.set_cons_zero, List.set_cons_succ])
    | ((with_reducible refine Step.gate_load (t := 3) rfl ?_); refine Step.load PR.out.blk rfl rfl rfl pl_int rfl ?_)
    | ((with_reducible refine Step.gate_load (t := 4) rfl ?_); refine Step.load PR.out.blk rfl rfl rfl pl_bool rfl ?_)
    | ((with_reducible refine Step.gate_load (t := 184) rfl ?_); refine Step.load PR.out.blk rfl rfl rfl pl_func rfl ?_)
    | ((with_reducible refine Step.gate_store (t := 3) rfl ?_); refine Step.store ST.out.one rfl rfl rfl rfl rfl pl_int rfl rfl ?_; intro w3 nb m; (try (have pr_ := Lib.hid (PR.out.keep ST.out.one m); clear PR; have PR := pr_)); have st_ := Lib.hid (ST.out.set1 nb m); clear ST nb m; have ST := st_)
    | ((with_reducible refine Step.gate_store (t := 4) rfl ?_); refine Step.store ST.out.one rfl rfl rfl rfl rfl pl_bool rfl rfl ?_; intro w3 nb m; (try (have pr_ := Lib.hid (PR.out.keep ST.out.one m); clear PR; have PR := pr_)); have st_ := Lib.hid (ST.out.set1 nb m); clear ST nb m; have ST := st_)
    | ((with_reducible refine Step.gate_store (t := 44) rfl ?_); refine Step.storeAll ST.out.one rfl rfl rfl rfl rfl size_inst rfl rfl ?_; intro w3 nb m; (try (have pr_ := Lib.hid (PR.out.keep ST.out.one m); clear PR; have PR := pr_)); have st_ := Lib.hid (ST.out.set1 nb m); clear ST nb m; have ST := st_)
    | ((with_reducible refine Step.gate_load (t := 3) rfl ?_); refine Step.load ST.out.one rfl rfl rfl pl_int rfl ?_)
    | ((with_reducible refine Step.gate_load (t := 4) rfl ?_); refine Step.load ST.out.one rfl rfl rfl pl_bool rfl ?_)
    | ((with_reducible refine Step.gate_load (t := 44) rfl ?_); refine Step.loadAll ST.out.one rfl rfl rfl Tryz.underlying44 rfl size_inst ?_)
    | ((with_reducible refine Step.gate_store (t := 3) rfl ?_); refine Step.store ST.out.two rfl rfl rfl rfl rfl pl_int rfl rfl ?_; intro w3 nb m; (try (have pr_ := Lib.hid (PR.out.keep ST.out.two m); clear PR; have PR := pr_)); have st_ := Lib.hid (ST.out.set2 nb m); clear ST nb m; have ST := st_)
    | ((with_reducible refine Step.gate_store (t := 4) rfl ?_); refine Step.store ST.out.two rfl rfl rfl rfl rfl pl_bool rfl rfl ?_; intro w3 nb m; (try (have pr_ := Lib.hid (PR.out.keep ST.out.two m); clear PR; have PR := pr_)); have st_ := Lib.hid (ST.out.set2 nb m); clear ST nb m; have ST := st_)
    | ((with_reducible refine Step.gate_store (t := 44) rfl ?_); refine Step.storeAll ST.out.two rfl rfl rfl rfl rfl size_inst rfl rfl ?_; intro w3 nb m; (try (have pr_ := Lib.hid (PR.out.keep ST.out.two m); clear PR; have PR := pr_)); have st_ := Lib.hid (ST.out.set2 nb m); clear ST nb m; have ST := st_)
    | ((with_reducible refine Step.gate_load (t := 3) rfl ?_); refine Step.load ST.out.two rfl rfl rfl pl_int rfl ?_)
    | ((with_reducible refine Step.gate_load (t := 4) rfl ?_); refine Step.load ST.out.two rfl rfl rfl pl_bool rfl ?_)
    | ((with_reducible refine Step.gate_load (t := 44) rfl ?_); refine Step.loadAll ST.out.two rfl rfl rfl Tryz.underlying44 rfl size_inst ?_))
  refine bodyPost_ret (results_row_tmp rfl _ _ g1 _ _ _ rfl ST.out.one Tryz.underlying44 rfl size_inst) rfl ⟨rfl, ST.out.below⟩
end Go.Proofs.YthkodjkkcgdmfaaGreat.Enc
end
