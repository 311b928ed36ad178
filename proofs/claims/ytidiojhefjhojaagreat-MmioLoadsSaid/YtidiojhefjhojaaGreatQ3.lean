/- Parts of the walks and laws for the claim: OpA, Wd, WdC, Get, Ram, RamB, RamC, RamD, Mc, McB; no conditions beyond the theorems' own. -/
import Derived.BigQuiet
import Derived.Deep.QuietTactic
import Derived.IntWalk
import Derived.Laws.BitsAllLaws
import Derived.Laws.BitsLemmas
import Derived.Lib.Hide
import Derived.Outline
import Derived.Test.YtidiojhefjhojaaGreatProg
import Derived.Test.YtidiojhefjhojaaGreatQ1
import Derived.Test.YtidiojhefjhojaaGreatQ2
section
namespace Go.Proofs.YtidiojhefjhojaaGreat.Hart
open Go Go.RowKit Go.Proofs.YtidiojhefjhojaaGreat.Step Go.Proofs.YtidiojhefjhojaaGreat.Enc Go.Proofs.YtidiojhefjhojaaGreat.Kn
set_option linter.unusedVariables false
set_option linter.unusedSimpArgs false
set_option maxRecDepth 100000
abbrev TS : TypeId := 105
theorem size_ev {k a va gpa : Int} {wk wr : Bool} : (Tryz.prog.info? 54).map (·.size) = some (#[.int .i64 k, .int .i64 a, .int .u64 va, .int .u64 gpa, .bool wk, .bool wr] : Array Value).size := (by kernel_rfl : (Tryz.prog.info? 54).map (·.size) = some 6)
theorem blt_of {a b : Nat} (h : a < b) : Nat.blt a b = true := Nat.ble_eq_true_of_le h
def rdP (s : Stp) (n : Nat) (v : Int) : Stp := { s with h := { s.h with x := xup s.h.x n v } }
def addW (a b : Int) : Int := IntKind.u64.wrap (a + b)
def immP (s : Stp) : Int := IntKind.u64.wrap s.imm
set_option maxHeartbeats 4000000 in
theorem x_any {W : World} {g : Nat} {s : Stp} {n : Nat} (hb : Blk W g (sc s) TS) (hr : s.rs1 = n) (hn : n < 32) : Calls Tryz.prog 134 #[.pointer (some ⟨g, 0, none⟩)] W fun e w' => e = .returned (.int .u64 (s.was.x n)) ∧ Below W.heap.size W w' := by
  have HB := Lib.hid hb
  clear hb
  go_enter Tryz.func134, Tryz.ntmps134
  go_wp2_with (first
    | ((with_reducible refine Sq.region (id := 1) (I := fun X => Below W.heap.size W X) ?hm1 9 (Below.refl _ _).drew ?hp1 ?hs1); (case hm1 => rfl); (case hp1 => kernel_rfl); intro ops K hops hK; clear hops; dsimp only [List.take]; (repeat (first | (refine Sq.seq_move rfl rfl ?_; simp only [Act.put, Act.eval, Array.getD_eq_getD_getElem?, List.getElem?_toArray, List.getElem?_cons_zero, List.getElem?_cons_succ, Option.getD_some, List.setIfInBounds_toArray, List.set_cons_zero, List.set_cons_succ]) | (refine Sq.seq_check rfl rfl rfl ?_; simp only [Act.put, Act.eval, Array.getD_eq_getD_getElem?, List.getElem?_toArray, List.getElem?_cons_zero, List.getElem?_cons_succ, Option.getD_some, List.setIfInBounds_toArray, List.set_cons_zero, List.set_cons_succ]) | (refine Sq.seq_load (t := 22) (fun X hX => HB.out.below hX) (Sq.wanted_none rfl) rfl rfl pl_u64 (sv_ok _ (by decide)) ?_; simp only [Act.put, Act.eval, Array.getD_eq_getD_getElem?, List.getElem?_toArray, List.getElem?_cons_zero, List.getElem?_cons_succ, Option.getD_some, List.setIfInBounds_toArray, List.set_cons_zero, List.set_cons_succ, sv_dry, sv_now, sv_k, sv_fn, sv_rd, sv_rs1, sv_rs2, sv_imm, sv_sz, sv_sg, sv_long, sv_bits, sv_ek, sv_ea, sv_eva, sv_egpa, sv_ewalk, sv_ewrote, sv_was_pc, sv_was_user, sv_was_on, sv_was_spie, sv_was_spp, sv_was_sum, sv_was_mxr, sv_was_rsv, sv_was_stvec, sv_was_sscr, sv_was_sepc, sv_was_scause, sv_was_stval, sv_was_sie, sv_was_sip, sv_was_satp, sv_was_resv, sv_h_pc, sv_h_user, sv_h_on, sv_h_spie, sv_h_spp, sv_h_sum, sv_h_mxr, sv_h_rsv, sv_h_stvec, sv_h_sscr, sv_h_sepc, sv_h_scause, sv_h_stval, sv_h_sie, sv_h_sip, sv_h_satp, sv_h_resv, sv_c, hr]) | (refine Sq.seq_load (t := 3) (fun X hX => HB.out.below hX) (Sq.wanted_none rfl) rfl rfl pl_int (sv_ok _ (by decide)) ?_; simp only [Act.put, Act.eval, Array.getD_eq_getD_getElem?, List.getElem?_toArray, List.getElem?_cons_zero, List.getElem?_cons_succ, Option.getD_some, List.setIfInBounds_toArray, List.set_cons_zero, List.set_cons_succ, sv_dry, sv_now, sv_k, sv_fn, sv_rd, sv_rs1, sv_rs2, sv_imm, sv_sz, sv_sg, sv_long, sv_bits, sv_ek, sv_ea, sv_eva, sv_egpa, sv_ewalk, sv_ewrote, sv_was_pc, sv_was_user, sv_was_on, sv_was_spie, sv_was_spp, sv_was_sum, sv_was_mxr, sv_was_rsv, sv_was_stvec, sv_was_sscr, sv_was_sepc, sv_was_scause, sv_was_stval, sv_was_sie, sv_was_sip, sv_was_satp, sv_was_resv, sv_h_pc, sv_h_user, sv_h_on, sv_h_spie, sv_h_spp, sv_h_sum, sv_h_mxr, sv_h_rsv, sv_h_stvec, sv_h_sscr, sv_h_sepc, sv_h_scause, sv_h_stval, sv_h_sie, sv_h_sip, sv_h_satp, sv_h_resv, sv_c, hr]) | (refine Sq.seq_load (t := 4) (fun X hX => HB.out.below hX) (Sq.wanted_none rfl) rfl rfl pl_bool (sv_ok _ (by decide)) ?_; simp only [Act.put, Act.eval, Array.getD_eq_getD_getElem?, List.getElem?_toArray, List.getElem?_cons_zero, List.getElem?_cons_succ, Option.getD_some, List.setIfInBounds_toArray, List.set_cons_zero, List.set_cons_succ, sv_dry, sv_now, sv_k, sv_fn, sv_rd, sv_rs1, sv_rs2, sv_imm, sv_sz, sv_sg, sv_long, sv_bits, sv_ek, sv_ea, sv_eva, sv_egpa, sv_ewalk, sv_ewrote, sv_was_pc, sv_was_user, sv_was_on, sv_was_spie, sv_was_spp, sv_was_sum, sv_was_mxr, sv_was_rsv, sv_was_stvec, sv_was_sscr, sv_was_sepc, sv_was_scause, sv_was_stval, sv_was_sie, sv_was_sip, sv_was_satp, sv_was_resv, sv_h_pc, sv_h_user, sv_h_on, sv_h_spie, sv_h_spp, sv_h_sum, sv_h_mxr, sv_h_rsv, sv_h_stvec, sv_h_sscr, sv_h_sepc, sv_h_scause, sv_h_stval, sv_h_sie, sv_h_sip, sv_h_satp, sv_h_resv, sv_c, hr]) | (refine' Sq.seq_pure rfl (fun X => _) _; rotate_left; (first | (go_simp; done) | (go_simp; rfl)); simp only [Act.put, Act.eval, Array.getD_eq_getD_getElem?, List.getElem?_toArray, List.getElem?_cons_zero, List.getElem?_cons_succ, Option.getD_some, List.setIfInBounds_toArray, List.set_cons_zero, List.set_cons_succ]))); refine Sq.seq_nil ?_; refine hK.out _ fun w1 hk => ?_; clear hK; have BW := Lib.hid hk; clear hk; dsimp only [List.drop])
    | ((with_reducible refine Step.gate_load (t := 22) rfl ?_); refine Step.load (HB.out.below BW.out) rfl rfl rfl pl_u64 (sc_was_x s hn) ?_))
  all_goals (first | go_ret | go_end0 | refine bodyPost_ret (results_none rfl _ _ _) rfl ?_)
  all_goals (exact ⟨rfl, BW.out⟩)
set_option maxHeartbeats 4000000 in
theorem y_any {W : World} {g : Nat} {s : Stp} {n : Nat} (hb : Blk W g (sc s) TS) (hr : s.rs2 = n) (hn : n < 32) : Calls Tryz.prog 136 #[.pointer (some ⟨g, 0, none⟩)] W fun e w' => e = .returned (.int .u64 (s.was.x n)) ∧ Below W.heap.size W w' := by
  have HB := Lib.hid hb
  clear hb
  go_enter Tryz.func136, Tryz.ntmps136
  go_wp2_with (first
    | ((with_reducible refine Sq.region (id := 1) (I := fun X => Below W.heap.size W X) ?hm2 9 (Below.refl _ _).drew ?hp2 ?hs2); (case hm2 => rfl); (case hp2 => kernel_rfl); intro ops K hops hK; clear hops; dsimp only [List.take]; (repeat (first | (refine Sq.seq_move rfl rfl ?_; simp only [Act.put, Act.eval, Array.getD_eq_getD_getElem?, List.getElem?_toArray, List.getElem?_cons_zero, List.getElem?_cons_succ, Option.getD_some, List.setIfInBounds_toArray, List.set_cons_zero, List.set_cons_succ]) | (refine Sq.seq_check rfl rfl rfl ?_; simp only [Act.put, Act.eval, Array.getD_eq_getD_getElem?, List.getElem?_toArray, List.getElem?_cons_zero, List.getElem?_cons_succ, Option.getD_some, List.setIfInBounds_toArray, List.set_cons_zero, List.set_cons_succ]) | (refine Sq.seq_load (t := 22) (fun X hX => HB.out.below hX) (Sq.wanted_none rfl) rfl rfl pl_u64 (sv_ok _ (by decide)) ?_; simp only [Act.put, Act.eval, Array.getD_eq_getD_getElem?, List.getElem?_toArray, List.getElem?_cons_zero, List.getElem?_cons_succ, Option.getD_some, List.setIfInBounds_toArray, List.set_cons_zero, List.set_cons_succ, sv_dry, sv_now, sv_k, sv_fn, sv_rd, sv_rs1, sv_rs2, sv_imm, sv_sz, sv_sg, sv_long, sv_bits, sv_ek, sv_ea, sv_eva, sv_egpa, sv_ewalk, sv_ewrote, sv_was_pc, sv_was_user, sv_was_on, sv_was_spie, sv_was_spp, sv_was_sum, sv_was_mxr, sv_was_rsv, sv_was_stvec, sv_was_sscr, sv_was_sepc, sv_was_scause, sv_was_stval, sv_was_sie, sv_was_sip, sv_was_satp, sv_was_resv, sv_h_pc, sv_h_user, sv_h_on, sv_h_spie, sv_h_spp, sv_h_sum, sv_h_mxr, sv_h_rsv, sv_h_stvec, sv_h_sscr, sv_h_sepc, sv_h_scause, sv_h_stval, sv_h_sie, sv_h_sip, sv_h_satp, sv_h_resv, sv_c, hr]) | (refine Sq.seq_load (t := 3) (fun X hX => HB.out.below hX) (Sq.wanted_none rfl) rfl rfl pl_int (sv_ok _ (by decide)) ?_; simp only [Act.put, Act.eval, Array.getD_eq_getD_getElem?, List.getElem?_toArray, List.getElem?_cons_zero, List.getElem?_cons_succ, Option.getD_some, List.setIfInBounds_toArray, List.set_cons_zero, List.set_cons_succ, sv_dry, sv_now, sv_k, sv_fn, sv_rd, sv_rs1, sv_rs2, sv_imm, sv_sz, sv_sg, sv_long, sv_bits, sv_ek, sv_ea, sv_eva, sv_egpa, sv_ewalk, sv_ewrote, sv_was_pc, sv_was_user, sv_was_on, sv_was_spie, sv_was_spp, sv_was_sum, sv_was_mxr, sv_was_rsv, sv_was_stvec, sv_was_sscr, sv_was_sepc, sv_was_scause, sv_was_stval, sv_was_sie, sv_was_sip, sv_was_satp, sv_was_resv, sv_h_pc, sv_h_user, sv_h_on, sv_h_spie, sv_h_spp, sv_h_sum, sv_h_mxr, sv_h_rsv, sv_h_stvec, sv_h_sscr, sv_h_sepc, sv_h_scause, sv_h_stval, sv_h_sie, sv_h_sip, sv_h_satp, sv_h_resv, sv_c, hr]) | (refine Sq.seq_load (t := 4) (fun X hX => HB.out.below hX) (Sq.wanted_none rfl) rfl rfl pl_bool (sv_ok _ (by decide)) ?_; simp only [Act.put, Act.eval, Array.getD_eq_getD_getElem?, List.getElem?_toArray, List.getElem?_cons_zero, List.getElem?_cons_succ, Option.getD_some, List.setIfInBounds_toArray, List.set_cons_zero, List.set_cons_succ, sv_dry, sv_now, sv_k, sv_fn, sv_rd, sv_rs1, sv_rs2, sv_imm, sv_sz, sv_sg, sv_long, sv_bits, sv_ek, sv_ea, sv_eva, sv_egpa, sv_ewalk, sv_ewrote, sv_was_pc, sv_was_user, sv_was_on, sv_was_spie, sv_was_spp, sv_was_sum, sv_was_mxr, sv_was_rsv, sv_was_stvec, sv_was_sscr, sv_was_sepc, sv_was_scause, sv_was_stval, sv_was_sie, sv_was_sip, sv_was_satp, sv_was_resv, sv_h_pc, sv_h_user, sv_h_on, sv_h_spie, sv_h_spp, sv_h_sum, sv_h_mxr, sv_h_rsv, sv_h_stvec, sv_h_sscr, sv_h_sepc, sv_h_scause, sv_h_stval, sv_h_sie, sv_h_sip, sv_h_satp, sv_h_resv, sv_c, hr]) | (refine' Sq.seq_pure rfl (fun X => _) _; rotate_left; (first | (go_simp; done) | (go_simp; rfl)); simp only [Act.put, Act.eval, Array.getD_eq_getD_getElem?, List.getElem?_toArray, List.getElem?_cons_zero, List.getElem?_cons_succ, Option.getD_some, List.setIfInBounds_toArray, List.set_cons_zero, List.set_cons_succ]))); refine Sq.seq_nil ?_; refine hK.out _ fun w1 hk => ?_; clear hK; have BW := Lib.hid hk; clear hk; dsimp only [List.drop])
    | ((with_reducible refine Step.gate_load (t := 22) rfl ?_); refine Step.load (HB.out.below BW.out) rfl rfl rfl pl_u64 (sc_was_x s hn) ?_))
  all_goals (first | go_ret | go_end0 | refine bodyPost_ret (results_none rfl _ _ _) rfl ?_)
  all_goals (exact ⟨rfl, BW.out⟩)
set_option maxHeartbeats 4000000 in
theorem imm_any {W : World} {g : Nat} {s : Stp} (hb : Blk W g (sc s) TS) : Calls Tryz.prog 132 #[.pointer (some ⟨g, 0, none⟩)] W fun e w' => e = .returned (.int .u64 (immP s)) ∧ Below W.heap.size W w' := by
  have e0 : IntKind.u64.wrap s.imm = immP s := rfl
  have HB := Lib.hid hb
  clear hb
  go_enter Tryz.func132, Tryz.ntmps132
  go_wp2_with (first
    | ((with_reducible refine Step.gate_load (t := 22) rfl ?_); refine Step.load HB.out rfl rfl rfl pl_u64 (sv_ok _ (by decide)) ?_; simp only [sv_dry, sv_now, sv_k, sv_fn, sv_rd, sv_rs1, sv_rs2, sv_imm, sv_sz, sv_sg, sv_long, sv_bits, sv_ek, sv_ea, sv_eva, sv_egpa, sv_ewalk, sv_ewrote, sv_was_pc, sv_was_user, sv_was_on, sv_was_spie, sv_was_spp, sv_was_sum, sv_was_mxr, sv_was_rsv, sv_was_stvec, sv_was_sscr, sv_was_sepc, sv_was_scause, sv_was_stval, sv_was_sie, sv_was_sip, sv_was_satp, sv_was_resv, sv_h_pc, sv_h_user, sv_h_on, sv_h_spie, sv_h_spp, sv_h_sum, sv_h_mxr, sv_h_rsv, sv_h_stvec, sv_h_sscr, sv_h_sepc, sv_h_scause, sv_h_stval, sv_h_sie, sv_h_sip, sv_h_satp, sv_h_resv, sv_c])
    | ((with_reducible refine Step.gate_load (t := 3) rfl ?_); refine Step.load HB.out rfl rfl rfl pl_int (sv_ok _ (by decide)) ?_; simp only [sv_dry, sv_now, sv_k, sv_fn, sv_rd, sv_rs1, sv_rs2, sv_imm, sv_sz, sv_sg, sv_long, sv_bits, sv_ek, sv_ea, sv_eva, sv_egpa, sv_ewalk, sv_ewrote, sv_was_pc, sv_was_user, sv_was_on, sv_was_spie, sv_was_spp, sv_was_sum, sv_was_mxr, sv_was_rsv, sv_was_stvec, sv_was_sscr, sv_was_sepc, sv_was_scause, sv_was_stval, sv_was_sie, sv_was_sip, sv_was_satp, sv_was_resv, sv_h_pc, sv_h_user, sv_h_on, sv_h_spie, sv_h_spp, sv_h_sum, sv_h_mxr, sv_h_rsv, sv_h_stvec, sv_h_sscr, sv_h_sepc, sv_h_scause, sv_h_stval, sv_h_sie, sv_h_sip, sv_h_satp, sv_h_resv, sv_c])
    | ((with_reducible refine Step.gate_load (t := 4) rfl ?_); refine Step.load HB.out rfl rfl rfl pl_bool (sv_ok _ (by decide)) ?_; simp only [sv_dry, sv_now, sv_k, sv_fn, sv_rd, sv_rs1, sv_rs2, sv_imm, sv_sz, sv_sg, sv_long, sv_bits, sv_ek, sv_ea, sv_eva, sv_egpa, sv_ewalk, sv_ewrote, sv_was_pc, sv_was_user, sv_was_on, sv_was_spie, sv_was_spp, sv_was_sum, sv_was_mxr, sv_was_rsv, sv_was_stvec, sv_was_sscr, sv_was_sepc, sv_was_scause, sv_was_stval, sv_was_sie, sv_was_sip, sv_was_satp, sv_was_resv, sv_h_pc, sv_h_user, sv_h_on, sv_h_spie, sv_h_spp, sv_h_sum, sv_h_mxr, sv_h_rsv, sv_h_stvec, sv_h_sscr, sv_h_sepc, sv_h_scause, sv_h_stval, sv_h_sie, sv_h_sip, sv_h_satp, sv_h_resv, sv_c]))
  all_goals (first | go_ret | go_end0 | refine bodyPost_ret (results_none rfl _ _ _) rfl ?_)
  all_goals (exact ⟨rfl, Below.refl _ _⟩)
set_option maxHeartbeats 4000000 in
theorem rd_any {W : World} {g : Nat} {s : Stp} {n : Nat} (hb : Blk W g (sc s) TS) (hr : s.rd = n) (hn : n < 32) (v : Int) : Calls Tryz.prog 131 #[.pointer (some ⟨g, 0, none⟩), .int .u64 v] W fun e w' => e = .returned (.tuple #[]) ∧ Blk w' g (sc (rdP s n v)) TS ∧ Mod (One g) W w' := by
  have ST := Lib.hid (Kn.start (S := One g) hb rfl)
  have HB := Lib.hid hb
  clear hb
  go_enter Tryz.func131, Tryz.ntmps131
  go_wp2_with (first
    | ((with_reducible refine Sq.region (id := 0) (I := fun X => Kn _ _ X _) ?hm3 10 ST.out.drew ?hp3 ?hs3); (case hm3 => rfl); (case hp3 => kernel_rfl); intro ops K hops hK; clear hops; dsimp only [List.take]; (repeat (first | (refine Sq.seq_move rfl rfl ?_; simp only [Act.put, Act.eval, Array.getD_eq_getD_getElem?, List.getElem?_toArray, List.getElem?_cons_zero, List.getElem?_cons_succ, Option.getD_some, List.setIfInBounds_toArray, List.set_cons_zero, List.set_cons_succ]) | (refine Sq.seq_check rfl rfl rfl ?_; simp only [Act.put, Act.eval, Array.getD_eq_getD_getElem?, List.getElem?_toArray, List.getElem?_cons_zero, List.getElem?_cons_succ, Option.getD_some, List.setIfInBounds_toArray, List.set_cons_zero, List.set_cons_succ]) | (refine Sq.seq_load (t := 22) (fun X hX => hX.at0) (Sq.wanted_none rfl) rfl rfl pl_u64 (sv_ok _ (by decide)) ?_; simp only [Act.put, Act.eval, Array.getD_eq_getD_getElem?, List.getElem?_toArray, List.getElem?_cons_zero, List.getElem?_cons_succ, Option.getD_some, List.setIfInBounds_toArray, List.set_cons_zero, List.set_cons_succ, sv_dry, sv_now, sv_k, sv_fn, sv_rd, sv_rs1, sv_rs2, sv_imm, sv_sz, sv_sg, sv_long, sv_bits, sv_ek, sv_ea, sv_eva, sv_egpa, sv_ewalk, sv_ewrote, sv_was_pc, sv_was_user, sv_was_on, sv_was_spie, sv_was_spp, sv_was_sum, sv_was_mxr, sv_was_rsv, sv_was_stvec, sv_was_sscr, sv_was_sepc, sv_was_scause, sv_was_stval, sv_was_sie, sv_was_sip, sv_was_satp, sv_was_resv, sv_h_pc, sv_h_user, sv_h_on, sv_h_spie, sv_h_spp, sv_h_sum, sv_h_mxr, sv_h_rsv, sv_h_stvec, sv_h_sscr, sv_h_sepc, sv_h_scause, sv_h_stval, sv_h_sie, sv_h_sip, sv_h_satp, sv_h_resv, sv_c, hr]) | (refine Sq.seq_load (t := 3) (fun X hX => hX.at0) (Sq.wanted_none rfl) rfl rfl pl_int (sv_ok _ (by decide)) ?_; simp only [Act.put, Act.eval, Array.getD_eq_getD_getElem?, List.getElem?_toArray, List.getElem?_cons_zero, List.getElem?_cons_succ, Option.getD_some, List.setIfInBounds_toArray, List.set_cons_zero, List.set_cons_succ, sv_dry, sv_now, sv_k, sv_fn, sv_rd, sv_rs1, sv_rs2, sv_imm, sv_sz, sv_sg, sv_long, sv_bits, sv_ek, sv_ea, sv_eva, sv_egpa, sv_ewalk, sv_ewrote, sv_was_pc, sv_was_user, sv_was_on, sv_was_spie, sv_was_spp, sv_was_sum, sv_was_mxr, sv_was_rsv, sv_was_stvec, sv_was_sscr, sv_was_sepc, sv_was_scause, sv_was_stval, sv_was_sie, sv_was_sip, sv_was_satp, sv_was_resv, sv_h_pc, sv_h_user, sv_h_on, sv_h_spie, sv_h_spp, sv_h_sum, sv_h_mxr, sv_h_rsv, sv_h_stvec, sv_h_sscr, sv_h_sepc, sv_h_scause, sv_h_stval, sv_h_sie, sv_h_sip, sv_h_satp, sv_h_resv, sv_c, hr]) | (refine Sq.seq_load (t := 4) (fun X hX => hX.at0) (Sq.wanted_none rfl) rfl rfl pl_bool (sv_ok _ (by decide)) ?_; simp only [Act.put, Act.eval, Array.getD_eq_getD_getElem?, List.getElem?_toArray, List.getElem?_cons_zero, List.getElem?_cons_succ, Option.getD_some, List.setIfInBounds_toArray, List.set_cons_zero, List.set_cons_succ, sv_dry, sv_now, sv_k, sv_fn, sv_rd, sv_rs1, sv_rs2, sv_imm, sv_sz, sv_sg, sv_long, sv_bits, sv_ek, sv_ea, sv_eva, sv_egpa, sv_ewalk, sv_ewrote, sv_was_pc, sv_was_user, sv_was_on, sv_was_spie, sv_was_spp, sv_was_sum, sv_was_mxr, sv_was_rsv, sv_was_stvec, sv_was_sscr, sv_was_sepc, sv_was_scause, sv_was_stval, sv_was_sie, sv_was_sip, sv_was_satp, sv_was_resv, sv_h_pc, sv_h_user, sv_h_on, sv_h_spie, sv_h_spp, sv_h_sum, sv_h_mxr, sv_h_rsv, sv_h_stvec, sv_h_sscr, sv_h_sepc, sv_h_scause, sv_h_stval, sv_h_sie, sv_h_sip, sv_h_satp, sv_h_resv, sv_c, hr]) | (refine' Sq.seq_pure rfl (fun X => _) _; rotate_left; (first | (go_simp; done) | (go_simp; rfl)); simp only [Act.put, Act.eval, Array.getD_eq_getD_getElem?, List.getElem?_toArray, List.getElem?_cons_zero, List.getElem?_cons_succ, Option.getD_some, List.setIfInBounds_toArray, List.set_cons_zero, List.set_cons_succ]))); refine Sq.seq_nil ?_; refine hK.out _ fun w1 hk => ?_; clear hK; replace ST := Lib.hid hk; clear hk; dsimp only [List.drop])
    | ((with_reducible refine Step.gate_store (t := 22) rfl ?_); refine Step.store ST.out.at0 rfl rfl rfl rfl rfl pl_u64 rfl (blt_of (by rw [sc_size]; omega)) ?_; intro w3 nb m; simp only [Act.eval, Array.getD_eq_getD_getElem?, List.getElem?_toArray, List.getElem?_cons_zero, List.getElem?_cons_succ, Option.getD_some] at nb; rw [sst_h_x _ hn] at nb; replace ST := Lib.hid (ST.out.set0 nb m); clear nb m))
  all_goals (first | go_ret | go_end0 | refine bodyPost_ret (results_none rfl _ _ _) rfl ?_)
  all_goals (exact ⟨rfl, ST.out.at0, ST.out.mod⟩)
end Go.Proofs.YtidiojhefjhojaaGreat.Hart
end
section
namespace Go.Proofs.YtidiojhefjhojaaGreat.Hart
open Go Go.RowKit Go.Proofs.YtidiojhefjhojaaGreat.Step Go.Proofs.YtidiojhefjhojaaGreat.Enc Go.Proofs.YtidiojhefjhojaaGreat.Kn
set_option linter.unusedVariables false
set_option linter.unusedSimpArgs false
set_option maxRecDepth 100000
theorem size_pair (a b : Int) : (Tryz.prog.info? 198).map (·.size) = some (#[.int .u64 a, .int .u64 b] : Array Value).size := (by kernel_rfl : (Tryz.prog.info? 198).map (·.size) = some 2)
theorem zero_pair : (Tryz.prog.info? 198).bind (·.zero) = some (.agg #[.int .u64 0, .int .u64 0]) := by kernel_rfl
/-- A function of two words answers a word, ever the same. -/
def Ans (f : FuncId) (a b : Int) : Prop := ∃ r, U64 r ∧ ∀ w, Calls Tryz.prog f #[.agg #[.int .u64 a, .int .u64 b]] w fun e w' => e = .returned (.int .u64 r) ∧ Below w.heap.size w w'
theorem Ans.at_ {f : FuncId} {a b : Int} (r : Int) (hr : U64 r) (h : ∀ w, Calls Tryz.prog f #[.agg #[.int .u64 a, .int .u64 b]] w fun e w' => e = .returned (.int .u64 r) ∧ Below w.heap.size w w') : Ans f a b := ⟨r, hr, h⟩
/-- A half with its sign, as a word. -/
def extH (v : Int) : Int := IntKind.u64.wrap (wrap64 (wrap32 v))
theorem ext_half (v : Int) (w : World) : Calls Tryz.prog 158 #[.int .u32 v] w fun e w' => e = .returned (.int .u64 (extH v)) ∧ Below w.heap.size w w' := by
  have HB := Lib.hid (Below.refl _ _ : Below w.heap.size w w)
  go_enter Tryz.func158, Tryz.ntmps158
  go_wp2
  go_ret
  exact ⟨rfl, HB.out⟩
set_option maxHeartbeats 2000000 in
theorem low_any (a b : Int) (w : World) : Calls Tryz.prog 212 #[.agg #[.int .u64 a, .int .u64 b]] w fun e w' => e = .returned (.tuple #[.int .u32 (a % 4294967296), .int .u32 (b % 4294967296)]) ∧ Below w.heap.size w w' := by
  have ST := Lib.hid (Kn.nil (S := Step.Nil) (W := w))
  go_enter Tryz.func212, Tryz.ntmps212
  go_wp2_with (first
    | ((with_reducible refine Step.gate_box (t := 198) rfl ?_); refine Step.fresh (cs := #[.int .u64 a, .int .u64 b]) (T := 198) rfl ?hr ?_; (case hr => first | (go_simp; done) | (go_simp; rfl)); intro g1 w1 b hg hb; replace ST := Lib.hid (ST.out.made b hg hb); clear b hb; clear hg)
    | ((with_reducible refine Step.gate_load (t := 22) rfl ?_); refine Step.load ST.out.at0 rfl rfl rfl pl_u64 rfl ?_)
    | ((with_reducible refine Step.gate_load (t := 198) rfl ?_); refine Step.loadAll ST.out.at0 rfl rfl rfl Tryz.underlying198 rfl (size_pair _ _) ?_)
    | ((with_reducible refine Sq.region (id := 1) (I := fun X => Kn _ _ X _) ?hm3 8 ST.out.drew ?hp3 ?hs3); (case hm3 => rfl); (case hp3 => kernel_rfl); intro ops K hops hK; clear hops; dsimp only [List.take]; (repeat (first | (refine Sq.seq_move rfl rfl ?_; simp only [Act.put, Act.eval, Array.getD_eq_getD_getElem?, List.getElem?_toArray, List.getElem?_cons_zero, List.getElem?_cons_succ, Option.getD_some, List.setIfInBounds_toArray, List.set_cons_zero, List.set_cons_succ]) | (refine Sq.seq_check rfl rfl rfl ?_; simp only [Act.put, Act.eval, Array.getD_eq_getD_getElem?, List.getElem?_toArray, List.getElem?_cons_zero, List.getElem?_cons_succ, Option.getD_some, List.setIfInBounds_toArray, List.set_cons_zero, List.set_cons_succ]) | (refine Sq.seq_load (t := 22) (fun X hX => hX.at0) (Sq.wanted_none rfl) rfl rfl pl_u64 rfl ?_; simp only [Act.put, Act.eval, Array.getD_eq_getD_getElem?, List.getElem?_toArray, List.getElem?_cons_zero, List.getElem?_cons_succ, Option.getD_some, List.setIfInBounds_toArray, List.set_cons_zero, List.set_cons_succ]) | (refine' Sq.seq_pure rfl (fun X => _) _; rotate_left; (first | (go_simp; done) | (go_simp; rfl)); simp only [Act.put, Act.eval, Array.getD_eq_getD_getElem?, List.getElem?_toArray, List.getElem?_cons_zero, List.getElem?_cons_succ, Option.getD_some, List.setIfInBounds_toArray, List.set_cons_zero, List.set_cons_succ]))); refine Sq.seq_nil ?_; refine hK.out _ fun w1 hk => ?_; clear hK; replace ST := Lib.hid hk; clear hk; dsimp only [List.drop]))
  refine bodyPost_ret (results_tmp2 rfl _ _ _) rfl ?_
  exact ⟨rfl, ST.out.below⟩
set_option maxHeartbeats 2000000 in
theorem signed_any (a b : Int) (w : World) : Calls Tryz.prog 211 #[.agg #[.int .u64 a, .int .u64 b]] w fun e w' => e = .returned (.agg #[.int .u64 (extH (a % 4294967296)), .int .u64 (extH (b % 4294967296))]) ∧ Below w.heap.size w w' := by
  have ST := Lib.hid (Kn.nil (S := Step.Nil) (W := w))
  go_enter Tryz.func211, Tryz.ntmps211
  go_wp2_with (first
    | ((with_reducible refine Step.gate_box (t := 198) rfl ?_); refine Step.fresh (cs := #[.int .u64 a, .int .u64 b]) (T := 198) rfl ?hr ?_; (case hr => first | (go_simp; done) | (go_simp; rfl)); intro g1 w1 b hg hb; replace ST := Lib.hid (ST.out.made b hg hb); clear b hb; clear hg)
    | ((with_reducible refine Step.gate_load (t := 22) rfl ?_); refine Step.load ST.out.at0 rfl rfl rfl pl_u64 rfl ?_)
    | ((with_reducible refine Step.gate_load (t := 198) rfl ?_); refine Step.loadAll ST.out.at0 rfl rfl rfl Tryz.underlying198 rfl (size_pair _ _) ?_)
    | ((with_reducible refine Step.gate_alloc (t := 198) rfl ?_); refine Step.freshAlloc rfl rfl (alloc_agg zero_pair) ?_; intro g2 w2 b hg hb; replace ST := Lib.hid (ST.out.made b hg hb); clear b hb; clear hg)
    | (go_at_call 212; (with_reducible refine (low_any _ _ _).mono ?_); rintro e w' ⟨rfl, hb⟩; replace ST := Lib.hid (ST.out.call hb); clear hb)
    | (go_at_call 158; (with_reducible refine (ext_half _ _).mono ?_); rintro e w' ⟨rfl, hb⟩; replace ST := Lib.hid (ST.out.call hb); clear hb)
    | ((with_reducible refine Step.gate_store (t := 198) rfl ?_); refine Step.storeAll ST.out.at0 rfl rfl rfl rfl rfl (size_pair _ _) rfl rfl ?_; intro w3 nb m; replace ST := Lib.hid (ST.out.set0 nb m); clear nb m)
    | ((with_reducible refine Step.gate_load (t := 198) rfl ?_); refine Step.loadAll ST.out.at1 rfl rfl rfl Tryz.underlying198 rfl (size_pair _ _) ?_))
  refine bodyPost_ret (results_row rfl _ _ g2 _ _ _ rfl ST.out.at0 Tryz.underlying198 rfl (size_pair _ _)) rfl ?_
  exact ⟨rfl, ST.out.below⟩
end Go.Proofs.YtidiojhefjhojaaGreat.Hart
end
section
namespace Go.Proofs.YtidiojhefjhojaaGreat.Hart
open Go Go.RowKit Go.Proofs.YtidiojhefjhojaaGreat.Step Go.Proofs.YtidiojhefjhojaaGreat.Enc Go.Proofs.YtidiojhefjhojaaGreat.Kn
set_option linter.unusedVariables false
set_option linter.unusedSimpArgs false
set_option maxRecDepth 100000
/-- Some bytes of a number as a word. -/
def extV (v : Int) (sz : Int) (sg : Bool) : Int :=
  if sz = 1 then (if sg = true ∧ v % 256 ≥ 128 then v % 256 + 18446744073709551360 else v % 256)
  else if sz = 2 then (if sg = true ∧ v % 65536 ≥ 32768 then v % 65536 + 18446744073709486080 else v % 65536)
  else if sz = 4 then (if sg = true ∧ v % 4294967296 ≥ 2147483648 then v % 4294967296 + 18446744069414584320 else v % 4294967296)
  else v
theorem extV_w {v : Int} (h : U64 v) (sz : Int) (sg : Bool) : U64 (extV v sz sg) := by
  have := h.out
  refine ⟨?_⟩
  unfold extV
  (repeat' split) <;> omega
set_option maxHeartbeats 4000000 in
theorem extend_any {v : Int} (hv : U64 v) (sz : Int) (sg : Bool) (w : World) : Calls Tryz.prog 23 #[.int .u64 v, .int .i64 sz, .bool sg] w fun e w' => e = .returned (.int .u64 (extV v sz sg)) ∧ Below w.heap.size w w' := by
  have hv := hv.out
  by_cases h1 : sz = 1
  · subst h1
    have e1 : IntKind.u64.wrap (v * 72057594037927936) / 72057594037927936 = v % 256 := by rw [IntKind.wrap_u64]; omega
    have e2 : IntKind.u64.wrap (wrap64 (IntKind.u64.wrap (v * 72057594037927936)) / 72057594037927936) = extV v 1 true := by
      rw [IntKind.wrap_u64, IntKind.wrap_u64]
      simp only [extV, Int.reduceEq, if_true, if_false, true_and]
      unfold wrap64
      (repeat' split) <;> omega
    have e3 : extV v 1 false = v % 256 := by simp [extV]
    cases sg
    all_goals (
      have HB := Lib.hid (Below.refl _ _ : Below w.heap.size w w)
      try rw [e3]
      generalize extV v 1 true = r at *
      go_enter Tryz.func23, Tryz.ntmps23
      go_wp2
      go_ret
      exact ⟨rfl, HB.out⟩)
  by_cases h2 : sz = 2
  · subst h2
    have e1 : IntKind.u64.wrap (v * 281474976710656) / 281474976710656 = v % 65536 := by rw [IntKind.wrap_u64]; omega
    have e2 : IntKind.u64.wrap (wrap64 (IntKind.u64.wrap (v * 281474976710656)) / 281474976710656) = extV v 2 true := by
      rw [IntKind.wrap_u64, IntKind.wrap_u64]
      simp only [extV, Int.reduceEq, if_true, if_false, true_and]
      unfold wrap64
      (repeat' split) <;> omega
    have e3 : extV v 2 false = v % 65536 := by simp [extV]
    cases sg
    all_goals (
      have HB := Lib.hid (Below.refl _ _ : Below w.heap.size w w)
      try rw [e3]
      generalize extV v 2 true = r at *
      go_enter Tryz.func23, Tryz.ntmps23
      go_wp2
      go_ret
      exact ⟨rfl, HB.out⟩)
  by_cases h4 : sz = 4
  · subst h4
    have e1 : IntKind.u64.wrap (v * 4294967296) / 4294967296 = v % 4294967296 := by rw [IntKind.wrap_u64]; omega
    have e2 : IntKind.u64.wrap (wrap64 (IntKind.u64.wrap (v * 4294967296)) / 4294967296) = extV v 4 true := by
      rw [IntKind.wrap_u64, IntKind.wrap_u64]
      simp only [extV, Int.reduceEq, if_true, if_false, true_and]
      unfold wrap64
      (repeat' split) <;> omega
    have e3 : extV v 4 false = v % 4294967296 := by simp [extV]
    cases sg
    all_goals (
      have HB := Lib.hid (Below.refl _ _ : Below w.heap.size w w)
      try rw [e3]
      generalize extV v 4 true = r at *
      go_enter Tryz.func23, Tryz.ntmps23
      go_wp2
      go_ret
      exact ⟨rfl, HB.out⟩)
  have e : extV v sz sg = v := by unfold extV; rw [if_neg h1, if_neg h2, if_neg h4]
  rw [e]
  replace h1 : (sz != 1) = true := by simpa using h1
  replace h2 : (sz != 2) = true := by simpa using h2
  replace h4 : (sz != 4) = true := by simpa using h4
  have HB := Lib.hid (Below.refl _ _ : Below w.heap.size w w)
  go_enter Tryz.func23, Tryz.ntmps23
  go_wp2
  go_ret
  exact ⟨rfl, HB.out⟩
end Go.Proofs.YtidiojhefjhojaaGreat.Hart
end
section
namespace Go.Proofs.YtidiojhefjhojaaGreat.Mem
open Go Go.RowKit
set_option linter.unusedVariables false
set_option maxRecDepth 100000
set_option linter.unusedSimpArgs false
theorem pl_u64 : Step.plainT Tryz.prog 22 = true := by kernel_rfl
theorem pl_u8 : Step.plainT Tryz.prog 5 = true := by kernel_rfl
theorem pl_fr : Step.plainT Tryz.prog 127 = true := by kernel_rfl
def zeros : Array Value := Array.replicate 4096 (.int .u8 0)
theorem zero_frame0 : ((Tryz.prog.info? 162).bind (·.zero)).map (fun v => match v with | .agg z => z.toList.all (fun x => match x with | .int .u8 0 => true | _ => false) && z.size == 4096 | _ => false) = some true := by kernel_rfl
theorem zero_frame : ∃ i, Tryz.prog.info? 162 = some i ∧ i.zero = some (.agg zeros) := by
  have h := zero_frame0
  cases hi : Tryz.prog.info? 162 with
  | none => rw [hi] at h; cases h
  | some i =>
    refine ⟨i, rfl, ?_⟩
    rw [hi] at h
    simp only [Option.bind_some] at h
    cases hz : i.zero with
    | none => rw [hz] at h; cases h
    | some v =>
      rw [hz] at h
      simp only [Option.map_some, Option.some.injEq] at h
      cases v with
      | agg z =>
        simp only [Bool.and_eq_true, beq_iff_eq, List.all_eq_true] at h
        refine congrArg (fun a => some (Value.agg a)) (Array.ext (by simp [zeros, h.2]) fun j h1 h2 => ?_)
        have := h.1 z[j] (by simp)
        simp only [zeros, Array.getElem_replicate]
        revert this
        generalize z[j] = x
        intro this
        split at this <;> first | rfl | cases this
      | _ => cases h
theorem alloc_frame (W : World) : (Instr.alloc 162 true (.tuple #[])).run Tryz.prog W = .ok (.pointer (some ⟨W.heap.size, 0, none⟩)) (W.alloc (.cells zeros 162 (0, 0))) := by
  obtain ⟨i, hi, hz⟩ := zero_frame
  simp [Instr.alloc, zeroValue, typeInfo, hi, hz, newVar, newRow, newObj, Result.andThen, Value.cells, go_sem]
  rfl
set_option maxHeartbeats 1000000 in
theorem get_nil (W : World) (h fb n : Nat) (base addr : Int) (k : Nat) (hb : 0 ≤ base) (ha : base ≤ addr) (ha2 : addr < 18446744073709551616) (hk : (addr - base) / 4096 = (k : Int)) (hkn : k < n) (hn : n ≤ 1024)
    (c0 : W.cell? ⟨h, 0, none⟩ = some (.int .u64 base)) (c1 : W.cell? ⟨h, 1, none⟩ = some (.slice (some ⟨fb, 0, none⟩) n n)) (ck : W.cell? ⟨fb, k, none⟩ = some (.pointer none)) :
    Calls Tryz.prog 26 #[.pointer (some ⟨h, 0, none⟩), .int .u64 addr] W fun e W' => e = .returned (.int .u8 0) ∧ W = W' := by
  have hs : IntKind.u64.wrap (addr - base) = addr - base := IntWalk.u64_in _ (by omega)
  go_enter Tryz.func26, Tryz.ntmps26
  go_wp2
  go_ret
  exact ⟨rfl, rfl⟩
set_option maxHeartbeats 1000000 in
theorem get_frame (W : World) (h fb n g : Nat) (base addr v : Int) (k j : Nat) (hb : 0 ≤ base) (ha : base ≤ addr) (ha2 : addr < 18446744073709551616) (hk : (addr - base) / 4096 = (k : Int)) (hj : (addr - base) % 4096 = (j : Int)) (hjn : j < 4096) (hkn : k < n) (hn : n ≤ 1024)
    (c0 : W.cell? ⟨h, 0, none⟩ = some (.int .u64 base)) (c1 : W.cell? ⟨h, 1, none⟩ = some (.slice (some ⟨fb, 0, none⟩) n n)) (ck : W.cell? ⟨fb, k, none⟩ = some (.pointer (some ⟨g, 0, none⟩))) (cj : W.cell? ⟨g, j, none⟩ = some (.int .u8 v)) :
    Calls Tryz.prog 26 #[.pointer (some ⟨h, 0, none⟩), .int .u64 addr] W fun e W' => e = .returned (.int .u8 v) ∧ W = W' := by
  have hs : IntKind.u64.wrap (addr - base) = addr - base := IntWalk.u64_in _ (by omega)
  go_enter Tryz.func26, Tryz.ntmps26
  go_wp2
  go_ret
  exact ⟨rfl, rfl⟩
set_option maxHeartbeats 1000000 in
theorem put_old (W : World) (h fb n g : Nat) (base addr v : Int) (cs bs : Array Value) (k j : Nat) (hb : 0 ≤ base) (ha : base ≤ addr) (ha2 : addr < 18446744073709551616) (hk : (addr - base) / 4096 = (k : Int)) (hj : (addr - base) % 4096 = (j : Int)) (hjn : j < 4096) (hkn : k < n) (hn : n ≤ 1024)
    (b0 : Step.Blk W h #[.int .u64 base, .slice (some ⟨fb, 0, none⟩) n n] 84) (b1 : Step.Blk W fb cs 127) (ck : cs[k]? = some (.pointer (some ⟨g, 0, none⟩))) (b2 : Step.Blk W g bs 162) (hbs : bs.size = 4096) :
    Calls Tryz.prog 50 #[.pointer (some ⟨h, 0, none⟩), .int .u64 addr, .int .u8 v] W fun e W' => e = .returned (.tuple #[]) ∧ Step.Blk W' g (bs.setIfInBounds j (.int .u8 v)) 162 ∧ Step.Mod (Step.One g) W W' := by
  have hs : IntKind.u64.wrap (addr - base) = addr - base := IntWalk.u64_in _ (by omega)
  have c0 := b0.cell 0
  have c1 := b0.cell 1
  have ck' := (b1.cell k).trans ck
  have B2 := Lib.hid b2
  have HJ : Nat.blt j bs.size = true := by rw [hbs]; exact Nat.ble_eq_true_of_le hjn
  have HJ2 := Lib.hid HJ
  clear HJ hbs b0 b1 ck b2
  simp at c0 c1
  go_enter Tryz.func50, Tryz.ntmps50
  go_wp2_with (first
    | ((with_reducible refine Step.gate_store (t := 5) rfl ?_); refine Step.store B2.out rfl rfl rfl rfl rfl pl_u8 rfl HJ2.out ?_; intro w1 n2 m; have N2 := Lib.hid n2; have M := Lib.hid m; clear n2 m))
  go_end0
  exact ⟨rfl, N2.out, M.out⟩
set_option maxHeartbeats 1000000 in
theorem put_new (W : World) (h fb n : Nat) (base addr v : Int) (cs : Array Value) (k j : Nat) (hb : 0 ≤ base) (ha : base ≤ addr) (ha2 : addr < 18446744073709551616) (hk : (addr - base) / 4096 = (k : Int)) (hj : (addr - base) % 4096 = (j : Int)) (hjn : j < 4096) (hkn : k < n) (hn : n ≤ 1024)
    (b0 : Step.Blk W h #[.int .u64 base, .slice (some ⟨fb, 0, none⟩) n n] 84) (b1 : Step.Blk W fb cs 127) (hcs : cs.size = n) (hne : h ≠ fb) (ck : cs[k]? = some (.pointer none)) :
    Calls Tryz.prog 50 #[.pointer (some ⟨h, 0, none⟩), .int .u64 addr, .int .u8 v] W fun e W' => e = .returned (.tuple #[]) ∧ ∃ g, Step.Blk W' g (zeros.setIfInBounds j (.int .u8 v)) 162 ∧ Step.Blk W' fb (cs.setIfInBounds k (.pointer (some ⟨g, 0, none⟩))) 127 ∧ W.heap.size ≤ g ∧ Step.Mod (Step.One fb) W W' := by
  have hs : IntKind.u64.wrap (addr - base) = addr - base := IntWalk.u64_in _ (by omega)
  have c0 := b0.cell 0
  have c1 := b0.cell 1
  have ck' := (b1.cell k).trans ck
  have lt0 := b0.lt
  have lt1 := b1.lt
  have B0 := Lib.hid b1
  have HJ : Nat.blt j zeros.size = true := by simp [zeros]; exact hjn
  have HJ2 := Lib.hid HJ
  have HK : Nat.blt k cs.size = true := by simp [hcs]; exact hkn
  have HK2 := Lib.hid HK
  clear HJ HK b0 b1 ck hcs
  simp at c0 c1
  go_enter Tryz.func50, Tryz.ntmps50
  go_wp2_with (first
    | ((with_reducible refine Step.gate_alloc (t := 162) rfl ?_); refine Step.freshAlloc rfl rfl alloc_frame ?_; intro g w1 b2 hg hbel;
        have c0' := (hbel.cell (p := ⟨h, 0, none⟩) lt0).trans c0; have c1' := (hbel.cell (p := ⟨h, 1, none⟩) lt0).trans c1; have ck1 := (hbel.cell (p := ⟨fb, k, none⟩) lt1).trans ck'; have B1 := Lib.hid (B0.out.below hbel); have B2 := Lib.hid b2; have HM := Lib.hid (Step.Mod.of_below hbel (Step.One fb)); have HG := Lib.hid hg; have HGF := Lib.hid (show g ≠ fb by omega); have HGH := Lib.hid (show h ≠ g by omega); clear hbel b2 c0 c1 ck' hg)
    | ((with_reducible refine Step.gate_store (t := 127) rfl ?_); refine Step.store B1.out rfl rfl rfl rfl rfl pl_fr rfl HK2.out ?_; intro w2 n2 m; have N1 := Lib.hid n2; have B3 := Lib.hid (B2.out.one m HGF.out); have M1 := Lib.hid m; clear n2 m)
    | ((with_reducible refine Step.gate_store (t := 5) rfl ?_); refine Step.store B3.out rfl rfl rfl rfl rfl pl_u8 rfl HJ2.out ?_; intro w3 n2 m; have N2 := Lib.hid n2; have N3 := Lib.hid (N1.out.one m HGF.out.symm); have M2 := Lib.hid m; clear n2 m))
  go_end0
  refine ⟨rfl, g, N2.out, N3.out, HG.out, ?_⟩
  refine (HM.out.trans M1.out).trans_new M2.out fun i hi e => ?_
  have := HG.out
  obtain rfl : i = g := e
  omega
end Go.Proofs.YtidiojhefjhojaaGreat.Mem
end
section
namespace Go.Proofs.YtidiojhefjhojaaGreat.Mem
open Go Go.RowKit Go.Proofs.YtidiojhefjhojaaGreat.Step
set_option linter.unusedVariables false
set_option linter.unusedSimpArgs false
set_option maxRecDepth 100000
/-- What was owned, and what is new. -/
def Grow (F : Nat → Prop) (W W' : World) : Nat → Prop := fun k => F k ∨ W.heap.size ≤ k ∧ k < W'.heap.size
/-- A content with one place turned. -/
def upd (mem : Nat → Int) (i : Nat) (v : Int) : Nat → Int := fun k => if k = i then v else mem k
structure RamIn (W : World) (h fb : Nat) (cs : Array Value) (fs : Nat → Option Nat) (base : Int) (n : Nat) (mem : Nat → Int) (F : Nat → Prop) : Prop where
  hdr : Blk W h #[.int .u64 base, .slice (some ⟨fb, 0, none⟩) n n] 84
  row : Blk W fb cs 127
  csz : cs.size = n
  n_lo : 1 ≤ n
  n_hi : n ≤ 1024
  b_lo : 0 ≤ base
  b_hi : base ≤ 4503599627370496
  at_ : ∀ k, k < n → cs[k]? = some (.pointer ((fs k).map fun g => ⟨g, 0, none⟩))
  frame : ∀ k g, k < n → fs k = some g → F g ∧ ∃ bs, Blk W g bs 162 ∧ bs.size = 4096 ∧ ∀ j, j < 4096 → bs[j]? = some (.int .u8 (mem (k * 4096 + j)))
  none_ : ∀ k, k < n → fs k = none → ∀ j, j < 4096 → mem (k * 4096 + j) = 0
  inj : ∀ k k' g, k < n → k' < n → fs k = some g → fs k' = some g → k = k'
  foot_h : F h
  foot_fb : F fb
  bound : ∀ k, F k → k < W.heap.size
  byte : ∀ i, i < n * 4096 → 0 ≤ mem i ∧ mem i < 256
/-- A memory at a block, from a base on, of so many frames, with these bytes; what it stands in lies within F. -/
def Ram (W : World) (h : Nat) (base : Int) (n : Nat) (mem : Nat → Int) (F : Nat → Prop) : Prop := ∃ fb cs fs, RamIn W h fb cs fs base n mem F
theorem RamIn.mod {W W' : World} {h fb n : Nat} {cs : Array Value} {fs : Nat → Option Nat} {base : Int} {mem : Nat → Int} {F S : Nat → Prop} (r : RamIn W h fb cs fs base n mem F) (m : Mod S W W') (hs : ∀ k, F k → ¬ S k) : RamIn W' h fb cs fs base n mem F where
  hdr := r.hdr.mod m (hs _ r.foot_h)
  row := r.row.mod m (hs _ r.foot_fb)
  csz := r.csz
  n_lo := r.n_lo
  n_hi := r.n_hi
  b_lo := r.b_lo
  b_hi := r.b_hi
  at_ := r.at_
  frame := fun k g hk hf => by
    obtain ⟨hF, bs, hb, h2⟩ := r.frame k g hk hf
    exact ⟨hF, bs, hb.mod m (hs _ hF), h2⟩
  none_ := r.none_
  inj := r.inj
  foot_h := r.foot_h
  foot_fb := r.foot_fb
  bound := fun k hk => Nat.lt_of_lt_of_le (r.bound k hk) m.size
  byte := r.byte
theorem Ram.mod {W W' : World} {h n : Nat} {base : Int} {mem : Nat → Int} {F S : Nat → Prop} (r : Ram W h base n mem F) (m : Mod S W W') (hs : ∀ k, F k → ¬ S k) : Ram W' h base n mem F := by
  obtain ⟨fb, cs, fs, r⟩ := r
  exact ⟨fb, cs, fs, r.mod m hs⟩
theorem Ram.below {W W' : World} {h n : Nat} {base : Int} {mem : Nat → Int} {F : Nat → Prop} (r : Ram W h base n mem F) (m : Below W.heap.size W W') : Ram W' h base n mem F := r.mod (Mod.of_below m Nil) fun _ _ h => h
theorem Ram.bound {W : World} {h n : Nat} {base : Int} {mem : Nat → Int} {F : Nat → Prop} (r : Ram W h base n mem F) : ∀ k, F k → k < W.heap.size := by obtain ⟨fb, cs, fs, r⟩ := r; exact r.bound
theorem Ram.size {W : World} {h n : Nat} {base : Int} {mem : Nat → Int} {F : Nat → Prop} (r : Ram W h base n mem F) : 1 ≤ n ∧ n ≤ 1024 ∧ 0 ≤ base ∧ base ≤ 4503599627370496 := by obtain ⟨fb, cs, fs, r⟩ := r; exact ⟨r.n_lo, r.n_hi, r.b_lo, r.b_hi⟩
theorem Ram.byte {W : World} {h n : Nat} {base : Int} {mem : Nat → Int} {F : Nat → Prop} (r : Ram W h base n mem F) {i : Nat} (hi : i < n * 4096) : 0 ≤ mem i ∧ mem i < 256 := by obtain ⟨fb, cs, fs, r⟩ := r; exact r.byte i hi
theorem Ram.congr {W : World} {h n : Nat} {base : Int} {mem mem' : Nat → Int} {F : Nat → Prop} (r : Ram W h base n mem F) (hm : ∀ i, i < n * 4096 → mem i = mem' i) : Ram W h base n mem' F := by
  obtain ⟨fb, cs, fs, r⟩ := r
  have lt : ∀ k j, k < n → j < 4096 → k * 4096 + j < n * 4096 := fun k j hk hj => by have := Nat.mul_le_mul_right 4096 (show k + 1 ≤ n from hk); omega
  refine ⟨fb, cs, fs, { r with frame := fun k g hk hf => ?_, none_ := fun k hk hf j hj => ?_, byte := fun i hi => ?_ }⟩
  · obtain ⟨hF, bs, hb, h2, h3⟩ := r.frame k g hk hf
    exact ⟨hF, bs, hb, h2, fun j hj => by rw [← hm _ (lt k j hk hj)]; exact h3 j hj⟩
  · rw [← hm _ (lt k j hk hj)]; exact r.none_ k hk hf j hj
  · rw [← hm _ hi]; exact r.byte i hi
theorem offs {base addr : Int} {n : Nat} (ha : base ≤ addr) (hb : addr < base + n * 4096) : ∃ k j : Nat, (addr - base) / 4096 = (k : Int) ∧ (addr - base) % 4096 = (j : Int) ∧ j < 4096 ∧ k < n ∧ (addr - base).toNat = k * 4096 + j := by
  refine ⟨((addr - base) / 4096).toNat, ((addr - base) % 4096).toNat, ?_, ?_, ?_, ?_, ?_⟩ <;> omega
theorem get {W : World} {h n : Nat} {base : Int} {mem : Nat → Int} {F : Nat → Prop} (r : Ram W h base n mem F) (addr : Int) (ha : base ≤ addr) (hb : addr < base + n * 4096) :
    Calls Tryz.prog 26 #[.pointer (some ⟨h, 0, none⟩), .int .u64 addr] W fun e W' => e = .returned (.int .u8 (mem (addr - base).toNat)) ∧ W = W' := by
  obtain ⟨fb, cs, fs, r⟩ := r
  obtain ⟨k, j, hk, hj, hj4, hkn, ho⟩ := offs ha hb
  have := r.n_hi
  have := r.b_hi
  have c0 := r.hdr.cell 0
  have c1 := r.hdr.cell 1
  have ck := (r.row.cell k).trans (r.at_ k hkn)
  simp only [List.getElem?_toArray, List.getElem?_cons_zero, List.getElem?_cons_succ] at c0 c1
  rw [ho]
  cases hf : fs k with
  | none =>
    rw [r.none_ k hkn hf j hj4]
    rw [hf] at ck
    exact get_nil W h fb n base addr k r.b_lo ha (by omega) hk hkn r.n_hi c0 c1 ck
  | some g =>
    obtain ⟨_, bs, hb, _, hbs⟩ := r.frame k g hkn hf
    rw [hf] at ck
    exact get_frame W h fb n g base addr _ k j r.b_lo ha (by omega) hk hj hj4 hkn r.n_hi c0 c1 ck ((hb.cell j).trans (hbs j hj4))
theorem put {W : World} {h n : Nat} {base : Int} {mem : Nat → Int} {F : Nat → Prop} (r : Ram W h base n mem F) (addr v : Int) (ha : base ≤ addr) (hb : addr < base + n * 4096) (hv : 0 ≤ v ∧ v < 256) :
    Calls Tryz.prog 50 #[.pointer (some ⟨h, 0, none⟩), .int .u64 addr, .int .u8 v] W fun e W' => e = .returned (.tuple #[]) ∧ Ram W' h base n (upd mem (addr - base).toNat v) (Grow F W W') ∧ Mod F W W' := by
  obtain ⟨fb, cs, fs, r⟩ := r
  obtain ⟨k, j, hk, hj, hj4, hkn, ho⟩ := offs ha hb
  have := r.n_hi
  have := r.b_hi
  have hne : h ≠ fb := fun e => by subst e; have := (r.hdr.inj r.row).2; revert this; decide
  have hbyte : ∀ i, i < n * 4096 → 0 ≤ upd mem (k * 4096 + j) v i ∧ upd mem (k * 4096 + j) v i < 256 := fun i hi => by
    unfold upd; split
    · exact hv
    · exact r.byte i hi
  rw [ho]
  cases hf : fs k with
  | some g =>
    obtain ⟨hF, bs, hb, hsz, hbs⟩ := r.frame k g hkn hf
    have ck := r.at_ k hkn
    rw [hf] at ck
    refine (put_old W h fb n g base addr v cs bs k j r.b_lo ha (by omega) hk hj hj4 hkn r.n_hi r.hdr r.row ck hb hsz).mono ?_
    rintro e W' ⟨rfl, hb', m⟩
    have gh : h ≠ g := fun e => by subst e; have := (r.hdr.inj hb).2; revert this; decide
    have gf : fb ≠ g := fun e => by subst e; have := (r.row.inj hb).2; revert this; decide
    refine ⟨rfl, ⟨fb, cs, fs, ?_⟩, m.mono fun i _ e => by obtain rfl : i = g := e; exact hF⟩
    refine { hdr := r.hdr.one m gh, row := r.row.one m gf, csz := r.csz, n_lo := r.n_lo, n_hi := r.n_hi, b_lo := r.b_lo, b_hi := r.b_hi, at_ := r.at_, frame := fun k' g' hk' hf' => ?_, none_ := fun k' hk' hf' j' hj' => ?_, inj := r.inj, foot_h := .inl r.foot_h, foot_fb := .inl r.foot_fb, bound := fun i hi => ?_, byte := hbyte }
    · obtain ⟨hF', bs', hb2, hsz', hbs'⟩ := r.frame k' g' hk' hf'
      refine ⟨.inl hF', ?_⟩
      by_cases e : g' = g
      · subst e
        obtain rfl := r.inj k' k g' hk' hkn hf' hf
        refine ⟨_, hb', by simpa using hsz, fun j' hj' => ?_⟩
        unfold upd
        by_cases ej : j = j'
        · subst ej; rw [if_pos rfl]; simp [hsz, hj4]
        · rw [if_neg (by omega), Array.getElem?_setIfInBounds_ne ej]; exact hbs j' hj'
      · refine ⟨bs', hb2.one m e, hsz', fun j' hj' => ?_⟩
        have : k' ≠ k := fun ek => e (by subst ek; rw [hf] at hf'; exact (Option.some.inj hf').symm)
        unfold upd
        rw [if_neg (by omega)]; exact hbs' j' hj'
    · have : k' ≠ k := fun ek => by subst ek; rw [hf] at hf'; cases hf'
      unfold upd
      rw [if_neg (by omega)]; exact r.none_ k' hk' hf' j' hj'
    · rcases hi with hi | hi
      · exact Nat.lt_of_lt_of_le (r.bound i hi) m.size
      · exact hi.2
  | none =>
    have ck := r.at_ k hkn
    rw [hf] at ck
    refine (put_new W h fb n base addr v cs k j r.b_lo ha (by omega) hk hj hj4 hkn r.n_hi r.hdr r.row r.csz hne ck).mono ?_
    rintro e W' ⟨rfl, g, hg, hfb, hnew, m⟩
    refine ⟨rfl, ⟨fb, cs.setIfInBounds k (.pointer (some ⟨g, 0, none⟩)), fun i => if i = k then some g else fs i, ?_⟩, m.mono fun i _ e => by obtain rfl : i = fb := e; exact r.foot_fb⟩
    refine { hdr := r.hdr.one m hne, row := hfb, csz := by simpa using r.csz, n_lo := r.n_lo, n_hi := r.n_hi, b_lo := r.b_lo, b_hi := r.b_hi, at_ := fun k' hk' => ?_, frame := fun k' g' hk' hf' => ?_, none_ := fun k' hk' hf' j' hj' => ?_, inj := fun a b g' ha hb h1 h2 => ?_, foot_h := .inl r.foot_h, foot_fb := .inl r.foot_fb, bound := fun i hi => ?_, byte := hbyte }
    · by_cases e : k = k'
      · subst e; simp [r.csz, hkn]
      · rw [Array.getElem?_setIfInBounds_ne e]; simp only [if_neg (Ne.symm e)]; exact r.at_ k' hk'
    · by_cases e : k' = k
      · subst e
        simp only [if_true, Option.some.injEq] at hf'
        subst hf'
        refine ⟨.inr ⟨hnew, hg.lt⟩, _, hg, by simp [zeros], fun j' hj' => ?_⟩
        unfold upd
        by_cases ej : j = j'
        · subst ej; rw [if_pos rfl]; simp [zeros, hj4]
        · rw [if_neg (by omega), Array.getElem?_setIfInBounds_ne ej, r.none_ k' hk' hf j' hj']; simp [zeros, hj']
      · simp only [if_neg e] at hf'
        obtain ⟨hF', bs', hb2, hsz', hbs'⟩ := r.frame k' g' hk' hf'
        have : g' ≠ fb := fun eg => by subst eg; have := (hb2.inj r.row).2; revert this; decide
        refine ⟨.inl hF', bs', hb2.one m this, hsz', fun j' hj' => ?_⟩
        unfold upd
        rw [if_neg (by omega)]; exact hbs' j' hj'
    · by_cases e : k' = k
      · simp [e] at hf'
      · simp only [if_neg e] at hf'
        unfold upd
        rw [if_neg (by omega)]; exact r.none_ k' hk' hf' j' hj'
    · have old : ∀ c, c < n → fs c ≠ some g := fun c hc hcg => by
        have := r.bound g (r.frame c g hc hcg).1
        omega
      by_cases ea : a = k <;> by_cases eb : b = k
      · rw [ea, eb]
      · simp only [if_pos ea, if_neg eb, Option.some.injEq] at h1 h2; subst h1; exact absurd h2 (old b hb)
      · simp only [if_neg ea, if_pos eb, Option.some.injEq] at h1 h2; subst h2; exact absurd h1 (old a ha)
      · simp only [if_neg ea, if_neg eb] at h1 h2; exact r.inj a b g' ha hb h1 h2
    · rcases hi with hi | hi
      · exact Nat.lt_of_lt_of_le (r.bound i hi) m.size
      · exact hi.2
end Go.Proofs.YtidiojhefjhojaaGreat.Mem
end
section
namespace Go.Proofs.YtidiojhefjhojaaGreat.Mem
open Go Go.RowKit Go.Proofs.YtidiojhefjhojaaGreat.Step
set_option linter.unusedVariables false
set_option linter.unusedSimpArgs false
set_option maxRecDepth 100000
/-- Facts of the two cells that every method reads. -/
theorem Ram.cells {W : World} {h n : Nat} {base : Int} {mem : Nat → Int} {F : Nat → Prop} (r : Ram W h base n mem F) : ∃ fb : Nat, W.cell? ⟨h, 0, none⟩ = some (.int .u64 base) ∧ W.cell? ⟨h, 1, none⟩ = some (.slice (some ⟨fb, 0, none⟩) n n) := by
  obtain ⟨fb, cs, fs, r⟩ := r
  have c0 := r.hdr.cell 0
  have c1 := r.hdr.cell 1
  simp only [List.getElem?_toArray, List.getElem?_cons_zero, List.getElem?_cons_succ] at c0 c1
  exact ⟨fb, c0, c1⟩
set_option maxHeartbeats 1000000 in
theorem size_any (W : World) (h fb n : Nat) (hn : n ≤ 1024) (c1 : W.cell? ⟨h, 1, none⟩ = some (.slice (some ⟨fb, 0, none⟩) n n)) :
    Calls Tryz.prog 24 #[.pointer (some ⟨h, 0, none⟩)] W fun e W' => e = .returned (.int .u64 (n * 4096)) ∧ W = W' := by
  go_enter Tryz.func24, Tryz.ntmps24
  go_wp2
  go_ret
  exact ⟨rfl, rfl⟩
/-- Do bytes lie in it? -/
def hasB (base : Int) (n : Nat) (addr size : Int) : Bool := decide (0 ≤ size ∧ base ≤ addr ∧ addr + size ≤ base + n * 4096)
set_option maxHeartbeats 400000 in
theorem has_any {W : World} {h n : Nat} {base : Int} {mem : Nat → Int} {F : Nat → Prop} (r : Ram W h base n mem F) (addr size : Int) (ha : 0 ≤ addr ∧ addr < 18446744073709551616) (hs : size < 9223372036854775808) :
    Calls Tryz.prog 9 #[.pointer (some ⟨h, 0, none⟩), .int .u64 addr, .int .i64 size] W fun e W' => e = .returned (.bool (hasB base n addr size)) ∧ ∃ k, W' = W.drewN k := by
  obtain ⟨fb, c0, c1⟩ := r.cells
  obtain ⟨n1, n2, b1, b2⟩ := r.size
  obtain ⟨ha1, ha2⟩ := ha
  have T := Lib.hid (fun W c1 => (size_any W h fb n n2 c1).mono fun e W2 h => (⟨h.1, h.2.symm⟩ : e = .returned (.int .u64 (n * 4096)) ∧ W2 = W))
  clear r
  have hsz := Lib.hid hs
  clear hs
  by_cases h1 : size < 0
  · have E := Lib.hid (show hasB base n addr size = false from decide_eq_false (by omega))
    go_enter Tryz.func9, Tryz.ntmps9
    go_wp2
    go_quiet ((go_at_call 24; exact Calls.quiet_of_same (T.out _ (by exact c1))))
    go_wp2
    go_ret
    exact ⟨by rw [E.out]; rfl, _, rfl⟩
  · have d1 : decide (size < 0) = false := by simpa using h1
    have h1' : 0 ≤ size := by omega
    clear h1
    by_cases h2 : addr < base
    · have E := Lib.hid (show hasB base n addr size = false from decide_eq_false (by omega))
      go_enter Tryz.func9, Tryz.ntmps9
      go_wp2
      go_quiet ((go_at_call 24; exact Calls.quiet_of_same (T.out _ (by exact c1))))
      go_wp2
      go_ret
      exact ⟨by rw [E.out]; rfl, _, rfl⟩
    · have d2 : decide (addr < base) = false := by simpa using h2
      have h2' : base ≤ addr := by omega
      clear h2
      have hs : IntKind.u64.wrap (addr - base) = addr - base := IntWalk.u64_in _ (by omega)
      by_cases h3 : (n : Int) * 4096 < addr - base
      · have E := Lib.hid (show hasB base n addr size = false from decide_eq_false (by omega))
        go_enter Tryz.func9, Tryz.ntmps9
        go_wp2
        go_quiet ((go_at_call 24; exact Calls.quiet_of_same (T.out _ (by exact c1))))
        go_wp2
        go_ret
        exact ⟨by rw [E.out]; rfl, _, rfl⟩
      · have d3 : decide ((n : Int) * 4096 < addr - base) = false := by simpa using h3
        have h3' : addr - base ≤ (n : Int) * 4096 := by omega
        clear h3
        have hs2 : IntKind.u64.wrap ((n : Int) * 4096 - (addr - base)) = (n : Int) * 4096 - (addr - base) := IntWalk.u64_in _ (by omega)
        have E := Lib.hid (show hasB base n addr size = decide (size ≤ (n : Int) * 4096 - (addr - base)) from decide_eq_decide.2 (by omega))
        go_enter Tryz.func9, Tryz.ntmps9
        go_wp2
        go_quiet ((go_at_call 24; exact Calls.quiet_of_same (T.out _ (by exact c1))))
        go_wp2
        obtain ⟨W1, hW1⟩ : ∃ W1, W1 = W.drewN nq := ⟨_, rfl⟩
        have c2 : W1.cell? ⟨h, 0, none⟩ = some (.int .u64 base) := by rw [hW1]; exact c0
        have c3 : W1.cell? ⟨h, 1, none⟩ = some (.slice (some ⟨fb, 0, none⟩) n n) := by rw [hW1]; exact c1
        have hs3 : IntKind.u64.wrap size = size := IntWalk.u64_in _ (by have := hsz.out; omega)
        rw [← hW1]
        have HW1 := Lib.hid hW1
        clear hW1 c0 c1
        go_quiet ((go_at_call 24; exact Calls.quiet_of_same (T.out _ (by exact c3))))
        go_wp2
        go_ret
        refine ⟨by rw [E.out]; rfl, ?_⟩
        rw [HW1.out]
        exact ⟨_, World.drewN_drewN _ _ _⟩
end Go.Proofs.YtidiojhefjhojaaGreat.Mem
end
section
namespace Go.Proofs.YtidiojhefjhojaaGreat.Mem
open Go Go.RowKit Go.Proofs.YtidiojhefjhojaaGreat.Step
set_option linter.unusedVariables false
set_option linter.unusedSimpArgs false
set_option maxRecDepth 100000
theorem below_drawn {W W' : World} (h : ∃ k, W' = W.drewN k) : Below W.heap.size W W' := by obtain ⟨k, rfl⟩ := h; exact ⟨rfl, rfl, rfl, Nat.le_refl _, fun _ _ => rfl⟩
theorem Ram.drawn {W W' : World} {h n : Nat} {base : Int} {mem : Nat → Int} {F : Nat → Prop} (r : Ram W h base n mem F) (hw : ∃ k, W' = W.drewN k) : Ram W' h base n mem F := r.below (below_drawn hw)
/-- Is it a size of a number? -/
def wholeB (s : Int) : Bool := decide (s = 1 ∨ s = 2 ∨ s = 4 ∨ s = 8)
set_option maxHeartbeats 400000 in
theorem whole_any (s : Int) (w : World) : Calls Tryz.prog 25 #[.int .i64 s] w fun e w' => e = .returned (.bool (wholeB s)) ∧ w = w' := by
  by_cases h1 : s = 1
  · subst h1; go_enter Tryz.func25, Tryz.ntmps25; go_wp2; go_ret; exact ⟨rfl, rfl⟩
  by_cases h2 : s = 2
  · subst h2; go_enter Tryz.func25, Tryz.ntmps25; go_wp2; go_ret; exact ⟨rfl, rfl⟩
  by_cases h3 : s = 4
  · subst h3; go_enter Tryz.func25, Tryz.ntmps25; go_wp2; go_ret; exact ⟨rfl, rfl⟩
  by_cases h4 : s = 8
  · subst h4; go_enter Tryz.func25, Tryz.ntmps25; go_wp2; go_ret; exact ⟨rfl, rfl⟩
  have E := Lib.hid (show wholeB s = false from decide_eq_false (by omega))
  have d1 : (s == 1) = false := by simpa using h1
  have d2 : (s == 2) = false := by simpa using h2
  have d3 : (s == 4) = false := by simpa using h3
  have d4 : (s == 8) = false := by simpa using h4
  go_enter Tryz.func25, Tryz.ntmps25; go_wp2; go_ret; exact ⟨by rw [E.out]; rfl, rfl⟩
/-- The number of so many bytes, the lowest first. -/
def num (mem : Nat → Int) : Nat → Nat → Int
  | _, 0 => 0
  | o, l + 1 => mem o + 256 * num mem (o + 1) l
theorem or_byte {v b : Int} (hv : 0 ≤ v ∧ v < 72057594037927936) (hb : 0 ≤ b ∧ b < 256) : bits .or .u64 (IntKind.u64.wrap (v * 256)) (IntKind.u64.wrap b) = b + 256 * v := by
  rw [IntWalk.u64_in (v * 256) (by omega), IntWalk.u64_in b (by omega), u64_or _ _ (by omega) (by omega) (by omega) (by omega)]
  have e : (v * 256).toNat ||| b.toNat = (v * 256).toNat + b.toNat := by
    rw [show (v * 256).toNat = 2 ^ 8 * v.toNat by omega]
    exact (Nat.two_pow_add_eq_or_of_lt (by omega) _).symm
  rw [e]; omega
theorem num_range {mem : Nat → Int} : ∀ (l o : Nat), (∀ i, o ≤ i → i < o + l → 0 ≤ mem i ∧ mem i < 256) → 0 ≤ num mem o l ∧ num mem o l < 256 ^ l
  | 0, _, _ => ⟨Int.le_refl _, Int.zero_lt_one⟩
  | l + 1, o, h => by
    have h0 := h o (Nat.le_refl _) (by omega)
    have h1 := num_range l (o + 1) fun i a b => h i (by omega) (by omega)
    simp only [num, Int.pow_succ]
    omega
theorem pow_small : ∀ l : Nat, l ≤ 7 → (256 : Int) ^ l ≤ 72057594037927936
  | 0, _ => by decide | 1, _ => by decide | 2, _ => by decide | 3, _ => by decide | 4, _ => by decide | 5, _ => by decide | 6, _ => by decide | 7, _ => by decide
  | n + 8, h => by omega
theorem num_step {mem : Nat → Int} {o s k : Nat} (hb : ∀ i, o ≤ i → i < o + s → 0 ≤ mem i ∧ mem i < 256) (hs : s ≤ 8) (hk : k + 1 ≤ s) :
    Value.int .u64 (bits .or .u64 (IntKind.u64.wrap (num mem (o + (k + 1)) (s - (k + 1)) * 256)) (IntKind.u64.wrap (mem (o + k)))) = Value.int .u64 (num mem (o + k) (s - k)) := by
  have h1 := num_range (s - (k + 1)) (o + (k + 1)) fun i a b => hb i (by omega) (by omega)
  have h2 := pow_small (s - (k + 1)) (by omega)
  rw [or_byte ⟨h1.1, by omega⟩ (hb _ (by omega) (by omega)), show s - k = s - (k + 1) + 1 by omega]
  rfl
theorem Ram.more {W : World} {h n : Nat} {base : Int} {mem : Nat → Int} {F F' : Nat → Prop} (r : Ram W h base n mem F) (hF : ∀ k, F k → F' k) (hb : ∀ k, F' k → k < W.heap.size) : Ram W h base n mem F' := by
  obtain ⟨fb, cs, fs, r⟩ := r
  exact ⟨fb, cs, fs, { r with frame := fun k g hk hf => ⟨hF _ (r.frame k g hk hf).1, (r.frame k g hk hf).2⟩, foot_h := hF _ r.foot_h, foot_fb := hF _ r.foot_fb, bound := hb }⟩
set_option maxHeartbeats 1000000 in
theorem read_yes {W : World} {h n : Nat} {base : Int} {mem : Nat → Int} {F : Nat → Prop} (r : Ram W h base n mem F) (addr : Int) (s : Nat) (ha : 0 ≤ addr ∧ addr < 18446744073709551616) (h1 : wholeB s = true) (h2 : hasB base n addr s = true) :
    Calls Tryz.prog 10 #[.pointer (some ⟨h, 0, none⟩), .int .u64 addr, .int .i64 s] W fun e W' => e = .returned (.tuple #[.int .u64 (num mem (addr - base).toNat s), .bool true]) ∧ ∃ k, W' = W.drewN k := by
  have hs : s ≤ 8 := by have := of_decide_eq_true h1; omega
  obtain ⟨hh1, hh2, hh3⟩ := of_decide_eq_true h2
  have T1 := Lib.hid (fun w => (whole_any s w).mono fun e w' h => (by rw [h1] at h; exact h : e = .returned (.bool true) ∧ w = w'))
  have hs9 : (s : Int) < 9223372036854775808 := by omega
  have T2 := Lib.hid ((has_any r addr s ha hs9).mono fun e w' h => (by rw [h2] at h; exact h : e = .returned (.bool true) ∧ ∃ k, w' = W.drewN k))
  have R := Lib.hid r
  obtain ⟨ha1, ha2⟩ := ha
  obtain ⟨n1, n2, b1, b2⟩ := r.size
  clear h1 h2 r hs9
  go_enter Tryz.func10, Tryz.ntmps10
  go_wp2_with (first
    | (go_at_call 25; refine (T1.out _).mono ?_; rintro e w1 ⟨rfl, rfl⟩)
    | (go_at_call 9; refine (T2.out).mono ?_; rintro e w1 ⟨rfl, hw⟩; have R1 := Lib.hid (R.out.drawn hw); have HW := Lib.hid hw; clear hw))
  go_loop [8, 9] (fun v i => ∃ k : Nat, k ≤ s ∧ i = .int .i64 ((k : Int) - 1) ∧ v = .int .u64 (num mem ((addr - base).toNat + k) (s - k))) (fun _ i => (intOf i + 1).toNat)
  case atStart => exact ⟨s, Nat.le_refl _, rfl, by rw [Nat.sub_self]; rfl⟩
  case round =>
    obtain ⟨k, hk, rfl, rfl⟩ := hrel
    cases k with
    | zero =>
      go_wp2
      refine bodyPost_ret (results_tmp2 rfl _ _ _) rfl ⟨rfl, HW.out⟩
    | succ k =>
      have T3 := Lib.hid (get R1.out (addr + k) (by omega) (by omega))
      go_wp2_with (go_at_call 26; refine (T3.out).mono ?_; rintro e w2 ⟨rfl, rfl⟩)
      refine ⟨⟨k, by omega, rfl, ?_⟩, by simp [intOf]⟩
      have hb : ∀ i, (addr - base).toNat ≤ i → i < (addr - base).toNat + s → 0 ≤ mem i ∧ mem i < 256 := fun i hi1 hi2 => R1.out.byte (by omega)
      rw [show (addr + (k : Int) - base).toNat = (addr - base).toNat + k by omega, num_step hb hs hk]
set_option maxHeartbeats 1000000 in
theorem read_no {W : World} {h n : Nat} {base : Int} {mem : Nat → Int} {F : Nat → Prop} (r : Ram W h base n mem F) (addr s : Int) (ha : 0 ≤ addr ∧ addr < 18446744073709551616) (hs9 : s < 9223372036854775808) (h1 : (wholeB s && hasB base n addr s) = false) :
    Calls Tryz.prog 10 #[.pointer (some ⟨h, 0, none⟩), .int .u64 addr, .int .i64 s] W fun e W' => e = .returned (.tuple #[.int .u64 0, .bool false]) ∧ ∃ k, W' = W.drewN k := by
  cases h2 : wholeB s with
  | false =>
    have T1 := Lib.hid (fun w => (whole_any s w).mono fun e w' h => (by rw [h2] at h; exact h : e = .returned (.bool false) ∧ w = w'))
    clear h1 h2 r
    go_enter Tryz.func10, Tryz.ntmps10
    go_wp2_with (first
      | (go_at_call 25; refine (T1.out _).mono ?_; rintro e w1 ⟨rfl, rfl⟩))
    refine bodyPost_ret (results_tmp2 rfl _ _ _) rfl ⟨rfl, 0, rfl⟩
  | true =>
    have h3 : hasB base n addr s = false := by rw [h2] at h1; exact h1
    have T1 := Lib.hid (fun w => (whole_any s w).mono fun e w' h => (by rw [h2] at h; exact h : e = .returned (.bool true) ∧ w = w'))
    have T2 := Lib.hid ((has_any r addr s ha hs9).mono fun e w' h => (by rw [h3] at h; exact h : e = .returned (.bool false) ∧ ∃ k, w' = W.drewN k))
    clear h1 h2 h3 r
    go_enter Tryz.func10, Tryz.ntmps10
    go_wp2_with (first
      | (go_at_call 25; refine (T1.out _).mono ?_; rintro e w1 ⟨rfl, rfl⟩)
      | (go_at_call 9; refine (T2.out).mono ?_; rintro e w1 ⟨rfl, hw⟩; have HW := Lib.hid hw; clear hw))
    refine bodyPost_ret (results_tmp2 rfl _ _ _) rfl ⟨rfl, HW.out⟩
theorem Grow.grow {F : Nat → Prop} {W W1 W2 : World} (h1 : W.heap.size ≤ W1.heap.size) (h2 : W1.heap.size ≤ W2.heap.size) : ∀ k, Grow (Grow F W W1) W1 W2 k → Grow F W W2 k
  | k, .inl (.inl h) => .inl h
  | k, .inl (.inr ⟨a, b⟩) => .inr ⟨a, by omega⟩
  | k, .inr ⟨a, b⟩ => .inr ⟨by omega, b⟩
theorem Grow.bound {F : Nat → Prop} {W W' : World} (hF : ∀ k, F k → k < W.heap.size) (h : W.heap.size ≤ W'.heap.size) : ∀ k, Grow F W W' k → k < W'.heap.size
  | k, .inl a => Nat.lt_of_lt_of_le (hF k a) h
  | k, .inr a => a.2
theorem mod_grow {F : Nat → Prop} {W W1 W2 : World} (h : Mod F W W1) (k : Mod (Grow F W W1) W1 W2) : Mod F W W2 := h.trans_new k fun i hi hg => hg.elim id fun e => by omega
theorem Ram.grow {W W1 W2 : World} {h n : Nat} {base : Int} {mem : Nat → Int} {F : Nat → Prop} (r : Ram W2 h base n mem (Grow (Grow F W W1) W1 W2)) (hF : ∀ k, F k → k < W.heap.size) (h1 : W.heap.size ≤ W1.heap.size) (h2 : W1.heap.size ≤ W2.heap.size) : Ram W2 h base n mem (Grow F W W2) :=
  r.more (Grow.grow h1 h2) (Grow.bound hF (Nat.le_trans h1 h2))
/-- The bytes of a number, written. -/
def wr (mem : Nat → Int) (off len : Nat) (v : Int) : Nat → Int := fun i => if off ≤ i ∧ i < off + len then v / 256 ^ (i - off) % 256 else mem i
theorem wr_zero (mem : Nat → Int) (off : Nat) (v : Int) : wr mem off 0 v = mem := funext fun i => if_neg (by omega)
theorem wr_succ (mem : Nat → Int) (off k : Nat) (v : Int) : upd (wr mem off k v) (off + k) (v / 256 ^ k % 256) = wr mem off (k + 1) v := by
  funext i
  unfold upd wr
  by_cases h : i = off + k
  · subst h; rw [if_pos rfl, if_pos (by omega), Nat.add_sub_cancel_left]
  · rw [if_neg h]
    by_cases h2 : off ≤ i ∧ i < off + k
    · rw [if_pos h2, if_pos (by omega)]
    · rw [if_neg h2, if_neg (by omega)]
set_option maxHeartbeats 1000000 in
theorem write_yes {W : World} {h n : Nat} {base : Int} {mem : Nat → Int} {F : Nat → Prop} (r : Ram W h base n mem F) (addr v : Int) (s : Nat) (ha : 0 ≤ addr ∧ addr < 18446744073709551616) (hv : 0 ≤ v ∧ v < 18446744073709551616) (h1 : wholeB s = true) (h2 : hasB base n addr s = true) :
    Calls Tryz.prog 48 #[.pointer (some ⟨h, 0, none⟩), .int .u64 addr, .int .i64 s, .int .u64 v] W fun e W' => e = .returned (.bool true) ∧ Ram W' h base n (wr mem (addr - base).toNat s v) (Grow F W W') ∧ Mod F W W' := by
  have hs : s ≤ 8 := by have := of_decide_eq_true h1; omega
  obtain ⟨hh1, hh2, hh3⟩ := of_decide_eq_true h2
  have T1 := Lib.hid (fun w => (whole_any s w).mono fun e w' h => (by rw [h1] at h; exact h : e = .returned (.bool true) ∧ w = w'))
  have hs9 : (s : Int) < 9223372036854775808 := by omega
  have T2 := Lib.hid ((has_any r addr s ha hs9).mono fun e w' h => (by rw [h2] at h; exact h : e = .returned (.bool true) ∧ ∃ k, w' = W.drewN k))
  have R := Lib.hid r
  obtain ⟨ha1, ha2⟩ := ha
  obtain ⟨hv1, hv2⟩ := hv
  obtain ⟨n1, n2, b1, b2⟩ := r.size
  clear h1 h2 r hs9
  go_enter Tryz.func48, Tryz.ntmps48
  go_wp2_with (first
    | (go_at_call 25; refine (T1.out _).mono ?_; rintro e w1 ⟨rfl, rfl⟩)
    | (go_at_call 9; refine (T2.out).mono ?_; rintro e w1 ⟨rfl, hw⟩; have R1 := Lib.hid (R.out.drawn hw); have HW := Lib.hid (below_drawn hw); clear hw))
  go_loopw [9, 21] (fun x i W1 => ∃ k : Nat, k ≤ s ∧ i = .int .i64 k ∧ Ram W1 h base n (wr mem (addr - base).toNat k v) (Grow F W W1) ∧ Mod F W W1) (fun _ i _ => (s - intOf i).toNat)
  case atStart =>
    refine ⟨0, Nat.zero_le _, rfl, ?_, ?_⟩
    · rw [wr_zero]; exact R1.out.more (fun k hk => .inl hk) fun k hk => hk.elim (fun h => Nat.lt_of_lt_of_le (R.out.bound k h) HW.out.size) fun h => h.2
    · exact Mod.of_below HW.out F
  case round =>
    obtain ⟨k, hk, rfl, hR, hM⟩ := hrel
    by_cases hlt : k < s
    · have T3 := Lib.hid (put hR (addr + k) (v / 2 ^ (8 * k) % 256) (by omega) (by omega) (by omega))
      have hsz := Lib.hid hM.size
      have HR := Lib.hid hR
      have HM := Lib.hid hM
      clear hR hM
      go_wp2_with (go_at_call 50; refine (T3.out).mono ?_; rintro e w2 ⟨rfl, hR, hM⟩; have HR2 := Lib.hid hR; have HM2 := Lib.hid hM; clear hR hM)
      refine ⟨⟨k + 1, by omega, rfl, ?_, mod_grow HM.out HM2.out⟩, by simp [intOf]; omega⟩
      have := (HR2.out.grow R.out.bound hsz.out HM2.out.size)
      rw [show (addr + (k : Int) - base).toNat = (addr - base).toNat + k by omega, show (2 : Int) ^ (8 * k) = 256 ^ k by rw [Int.pow_mul]; rfl, wr_succ] at this
      exact this
    · obtain rfl : k = s := by omega
      have HR := Lib.hid hR
      have HM := Lib.hid hM
      clear hR hM
      go_wp2
      go_ret
      exact ⟨rfl, HR.out, HM.out⟩
end Go.Proofs.YtidiojhefjhojaaGreat.Mem
end
section
namespace Go.Proofs.YtidiojhefjhojaaGreat.Mem
open Go Go.RowKit Go.Proofs.YtidiojhefjhojaaGreat.Step
set_option linter.unusedVariables false
set_option linter.unusedSimpArgs false
set_option maxRecDepth 100000
theorem mk_frs : (Tryz.prog.info? 127).map (fun i => (i.size, i.bytes, i.zero)) = some (1, 8, some (.pointer none)) := by kernel_rfl
theorem mk_u8 : (Tryz.prog.info? 5).map (fun i => (i.size, i.bytes, i.zero)) = some (1, 1, some (.int .u8 0)) := by kernel_rfl
/-- Is there a memory of so many frames at this base? -/
def newB (base n : Int) : Bool := decide (1 ≤ n ∧ n ≤ 1024 ∧ base % 4096 = 0 ∧ base ≤ 4503599627370496)
set_option maxHeartbeats 1000000 in
theorem new_yes (W : World) (base : Int) (n : Nat) (hb : 0 ≤ base ∧ base < 18446744073709551616) (h : newB base n = true) :
    Calls Tryz.prog 29 #[.int .u64 base, .int .i64 n] W fun e W' => ∃ h, e = .returned (.tuple #[.pointer (some ⟨h, 0, none⟩), .int .i64 0]) ∧ Ram W' h base n (fun _ => 0) (Grow Nil W W') ∧ Mod Nil W W' := by
  obtain ⟨h1, h2, h3, h4⟩ := of_decide_eq_true h
  obtain ⟨b1, b2⟩ := hb
  clear h
  have d1 : decide ((n : Int) < 1) = false := by simpa using h1
  have d2 : decide (1024 < (n : Int)) = false := by simpa using h2
  have d4 : decide (4503599627370496 < base) = false := by simpa using h4
  have HN := Lib.hid (show 8 * n ≤ 281474976710656 by omega)
  have HN2 := Lib.hid (show n ≤ 9223372036854775807 by omega)
  have HB := Lib.hid (⟨h1, h2, h4, b1⟩ : (1 ≤ (n : Int)) ∧ (n : Int) ≤ 1024 ∧ base ≤ 4503599627370496 ∧ 0 ≤ base)
  have hu66 := Tryz.underlying84
  clear h1 h2 h4 b2
  go_enter Tryz.func29, Tryz.ntmps29
  go_wp2_with (first
    | (refine Step.make (t := 82) rfl rfl rfl rfl Tryz.underlying82 mk_frs rfl HN.out HN2.out ?_; intro g w1 b hg hb; have B1 := Lib.hid b; have HG := Lib.hid hg; have HM := Lib.hid hb; clear b hg hb)
    | ((with_reducible refine Step.gate_box (t := 84) rfl ?_); refine Step.fresh (cs := #[.int .u64 base, .slice (some ⟨g, 0, none⟩) n n]) (T := 84) rfl ?hr ?_; (case hr => first | (go_simp; done)); intro g2 w2 b hg hb; have B2 := Lib.hid b; have B3 := Lib.hid (B1.out.below hb); have HG2 := Lib.hid hg; have HM2 := Lib.hid hb; clear b hg hb))
  refine bodyPost_ret (results_tmp2 rfl _ _ _) rfl ⟨g2, rfl, ?_, Mod.of_below (below_below HM.out (HM2.out)) Nil⟩
  obtain ⟨hn1, hn2, hb1, hb2⟩ := HB.out
  have s1 := HG.out
  have s2 := HG2.out
  have l1 := B1.out.lt
  have l2 := B2.out.lt
  have l3 := B3.out.lt
  refine ⟨g, Array.replicate n (.pointer none), fun _ => none, ?_⟩
  exact { hdr := B2.out, row := B3.out, csz := by simp, n_lo := by omega, n_hi := by omega, b_lo := hb2, b_hi := hb1, at_ := fun k hk => by simp [hk], frame := fun k g hk hf => (by cases hf), none_ := fun k hk hf j hj => rfl, inj := fun k k' g hk hk' h1 h2 => (by cases h1), foot_h := .inr ⟨by omega, l2⟩, foot_fb := .inr ⟨s1, l3⟩, bound := fun k hk => hk.elim (fun h => h.elim) (fun h => h.2), byte := fun i hi => by decide }
end Go.Proofs.YtidiojhefjhojaaGreat.Mem
end
section
namespace Go.Proofs.YtidiojhefjhojaaGreat.Hart
open Go Go.RowKit Go.Proofs.YtidiojhefjhojaaGreat.Step Go.Proofs.YtidiojhefjhojaaGreat.Enc Go.Proofs.YtidiojhefjhojaaGreat.Kn
open Go.Proofs.YtidiojhefjhojaaGreat.Mem (Ram Grow hasB wholeB num wr)
set_option linter.unusedVariables false
set_option linter.unusedSimpArgs false
set_option maxRecDepth 100000
abbrev TC : TypeId := 101
theorem pl_pc : Step.plainT Tryz.prog 51 = true := by kernel_rfl
theorem pl_ps : Step.plainT Tryz.prog 102 = true := by kernel_rfl
theorem pl_pm : Step.plainT Tryz.prog 30 = true := by kernel_rfl
/-- The cells of a core. -/
def ccells (gm : Nat) (tv : Value) (root vmid done : Int) (km : Value) : Array Value := #[.pointer (some ⟨gm, 0, none⟩), tv, .int .u64 root, .int .i64 vmid, .int .u32 done, .int .i32 0, .int .u32 0, km]
/-- What belongs to a core besides its memory: it stands in G, and goes by what is not turned there. -/
structure Rest (G : Nat → Prop) (T : World → Prop) : Prop where
  keep : ∀ w w' S, T w → Mod S w w' → (∀ k, G k → ¬ S k) → T w'
/-- A core that runs: its block, its memory, what belongs to it. -/
structure Mc (w : World) (gc gm : Nat) (tv : Value) (root vmid : Int) (km : Value) (base : Int) (n : Nat) (mem : Nat → Int) (F G : Nat → Prop) (T : World → Prop) : Prop where
  core : Blk w gc (ccells gm tv root vmid 1 km) TC
  ram : Ram w gm base n mem F
  rest : Rest G T
  tlb : T w
  nF : ¬ F gc
  nG : ¬ G gc
  fg : ∀ k, F k → ¬ G k
  bnd : ∀ k, G k → k < w.heap.size
/-- A step of it. -/
structure Sy (w : World) (gs : Nat) (s : Stp) (gm : Nat) (tv : Value) (root vmid : Int) (km : Value) (base : Int) (n : Nat) (mem : Nat → Int) (F G : Nat → Prop) (T : World → Prop) : Prop where
  step : Blk w gs (sc s) TS
  mc : Mc w s.gc gm tv root vmid km base n mem F G T
  nF : ¬ F gs
  nG : ¬ G gs
  ne : gs ≠ s.gc
section
variable {w w' : World} {gs gm n : Nat} {s s' : Stp} {tv km : Value} {root vmid base : Int} {mem mem' : Nat → Int} {F G : Nat → Prop} {T : World → Prop}
theorem Mc.mod {gc : Nat} {S : Nat → Prop} (h : Mc w gc gm tv root vmid km base n mem F G T) (m : Mod S w w') (h1 : ¬ S gc) (h2 : ∀ k, F k → ¬ S k) (h3 : ∀ k, G k → ¬ S k) : Mc w' gc gm tv root vmid km base n mem F G T :=
  ⟨h.core.mod m h1, h.ram.mod m h2, h.rest, h.rest.keep _ _ _ h.tlb m h3, h.nF, h.nG, h.fg, fun k hk => Nat.lt_of_lt_of_le (h.bnd k hk) m.size⟩
theorem Mc.below {gc : Nat} (h : Mc w gc gm tv root vmid km base n mem F G T) (b : Below w.heap.size w w') : Mc w' gc gm tv root vmid km base n mem F G T := h.mod (Mod.of_below b Nil) (fun h => h) (fun _ _ h => h) (fun _ _ h => h)
theorem Sy.below (h : Sy w gs s gm tv root vmid km base n mem F G T) (b : Below w.heap.size w w') : Sy w' gs s gm tv root vmid km base n mem F G T := ⟨h.step.below b, h.mc.below b, h.nF, h.nG, h.ne⟩
theorem Sy.set (h : Sy w gs s gm tv root vmid km base n mem F G T) (nb : Blk w' gs (sc s') TS) (m : Mod (One gs) w w') (hg : s'.gc = s.gc) : Sy w' gs s' gm tv root vmid km base n mem F G T :=
  ⟨nb, by rw [hg]; exact h.mc.mod m (fun e => h.ne (e : s.gc = gs).symm) (fun k hk e => h.nF ((e : k = gs) ▸ hk)) (fun k hk e => h.nG ((e : k = gs) ▸ hk)), h.nF, h.nG, by rw [hg]; exact h.ne⟩
theorem Sy.wrote (h : Sy w gs s gm tv root vmid km base n mem F G T) (r : Ram w' gm base n mem' (Grow F w w')) (m : Mod F w w') : Sy w' gs s gm tv root vmid km base n mem' (Grow F w w') G T :=
  ⟨h.step.mod m h.nF, ⟨h.mc.core.mod m h.mc.nF, r, h.mc.rest, h.mc.rest.keep _ _ _ h.mc.tlb m fun k hk hf => h.mc.fg k hf hk, fun hg => hg.elim h.mc.nF fun e => by have := h.mc.core.lt; omega, h.mc.nG, fun k hk hg => hk.elim (fun hf => h.mc.fg k hf hg) fun e => by have := h.mc.bnd k hg; omega, fun k hk => Nat.lt_of_lt_of_le (h.mc.bnd k hk) m.size⟩,
    fun hg => hg.elim h.nF fun e => by have := h.step.lt; omega, h.nG, h.ne⟩
end
section
variable {gm : Nat} {tv : Value} {root vmid done : Int} {km : Value}
theorem cc_m : (ccells gm tv root vmid done km)[0]? = some (.pointer (some ⟨gm, 0, none⟩)) := rfl
theorem cc_root : (ccells gm tv root vmid done km)[2]? = some (.int .u64 root) := rfl
theorem cc_kinds : (ccells gm tv root vmid done km)[7]? = some km := rfl
end
set_option maxHeartbeats 2000000 in
theorem go_off {W : World} {g : Nat} {cs : Array Value} {T : TypeId} {satp : Int} (hB : Blk W g cs T) (h3 : cs[3]? = some (.int .u64 satp)) (hs : satp / 1152921504606846976 = 0) (h0 : 0 ≤ satp) (va a : Int) :
    Calls Tryz.prog 55 #[.pointer (some ⟨g, 0, none⟩), .int .u64 va, .int .i64 a] W fun e w' => e = .returned (.tuple #[.int .u64 va, .int .i64 0]) ∧ Below W.heap.size W w' := by
  have c3 := (hB.cell 3).trans h3
  have HB := Lib.hid (Below.refl _ _ : Below W.heap.size W W)
  go_enter Tryz.func55, Tryz.ntmps55
  go_wp2
  refine bodyPost_ret (results_tmp2 rfl _ _ _) rfl ?_
  exact ⟨rfl, HB.out⟩
set_option maxHeartbeats 2000000 in
theorem second_off {W : World} {g gm : Nat} {s : Stp} {tv km : Value} {vmid done : Int} (hb : Blk W g (sc s) TS) (hc : Blk W s.gc (ccells gm tv 0 vmid done km) TC) (gpa a : Int) :
    Calls Tryz.prog 154 #[.pointer (some ⟨g, 0, none⟩), .int .u64 gpa, .int .i64 a] W fun e w' => e = .returned (.tuple #[.int .u64 gpa, .int .i64 0]) ∧ Below W.heap.size W w' := by
  have HB := Lib.hid (Below.refl _ _ : Below W.heap.size W W)
  have ST := Lib.hid (Kn.start (S := One g) hb rfl)
  have HC := Lib.hid hc
  clear hb hc
  go_enter Tryz.func154, Tryz.ntmps154
  go_wp2_with (first
    | ((with_reducible refine Step.gate_load (t := 51) rfl ?_); refine Step.load ST.out.at0 rfl rfl rfl pl_pc (sv_ok _ (by decide)) ?_; simp only [sv_c])
    | ((with_reducible refine Step.gate_load (t := 22) rfl ?_); refine Step.load HC.out rfl rfl rfl pl_u64 cc_root ?_))
  refine bodyPost_ret (results_tmp2 rfl _ _ _) rfl ?_
  exact ⟨rfl, HB.out⟩
theorem zero_ev : (Tryz.prog.info? 54).bind (·.zero) = some (.agg #[.int .i64 0, .int .i64 0, .int .u64 0, .int .u64 0, .bool false, .bool false]) := by kernel_rfl
theorem pl_fn : Step.plainT Tryz.prog 139 = true := by kernel_rfl
theorem results3 {P : Program} {fn : Func} {a b c : Tmp} (h : fn.results = #[.tmp a, .tmp b, .tmp c]) (tmps : Array Value) (w : World) : (results fn tmps).run P w = .ok (.tuple #[tmps.getD a undef, tmps.getD b undef, tmps.getD c undef]) w := by
  simp [results, h, go_sem, Result.andThen]
set_option maxHeartbeats 8000000 in
theorem reach_true {W : World} {g gm n : Nat} {s : Stp} {tv km : Value} {vmid done base : Int} {mem : Nat → Int} {F : Nat → Prop} (hb : Blk W g (sc s) TS) (hc : Blk W s.gc (ccells gm tv 0 vmid done km) TC) (hne : g ≠ s.gc) (hram : Ram W gm base n mem F) (hF : ¬ F g)
    (hs : s.was.satp / 1152921504606846976 = 0) (hs0 : U64 s.was.satp) {va size : Int} (hva : U64 va) (hsz : size < 9223372036854775808) (hh : hasB base n va size = true) (a : Int) :
    Calls Tryz.prog 138 #[.pointer (some ⟨g, 0, none⟩), .int .u64 va, .int .i64 size, .int .i64 a] W fun e w' => e = .returned (.tuple #[.int .u64 va, .int .u64 va, .bool true]) ∧ Below W.heap.size W w' := by
  have HH := Lib.hid (fun (W' : World) (m : Mod Step.Nil W W') => by
    have h := Mem.has_any (hram.mod m fun k hk e => e) va size hva.out hsz
    rw [hh] at h
    exact h)
  have HS := Lib.hid hs
  have HS0 := Lib.hid hs0.out.1
  have HN := Lib.hid (show ¬ One g s.gc from fun e => hne (e : s.gc = g).symm)
  have HC := Lib.hid hc
  have HB := Lib.hid hb
  have ST := Lib.hid (Kn.nil (S := Step.Nil) (W := W))
  clear hb hc hne hram hF hs hs0 hva hsz hh
  go_enter Tryz.func138, Tryz.ntmps138
  go_wp2_with (first
    | ((with_reducible refine Step.gate_box (t := 102) rfl ?_); refine Step.fresh (cs := #[.pointer (some ⟨g, 0, none⟩)]) (T := 102) rfl ?hr ?_; (case hr => first | (go_simp; done) | (go_simp; rfl)); intro g4 w1 b hg hb; replace ST := Lib.hid (ST.out.made b hg hb); clear b hb; clear hg)
    | ((with_reducible refine Step.gate_alloc (t := 54) rfl ?_); refine Step.freshAlloc rfl rfl (alloc_agg zero_ev) ?_; intro g11 w2 b hg hb; replace ST := Lib.hid (ST.out.made b hg hb); clear b hb hg)
    | ((with_reducible refine Step.gate_store (t := 54) rfl ?_); refine Step.storeAll (vs := #[.int .i64 3, .int .i64 a, .int .u64 va, .int .u64 0, .bool false, .bool false]) ST.out.at0 rfl rfl rfl rfl rfl size_ev rfl rfl ?_; intro w3 nb m; replace ST := Lib.hid (ST.out.set0 nb m); clear nb m)
    | ((with_reducible refine Sq.region (id := 2) (I := fun X => Kn _ _ X _) ?hm1 20 ST.out.drew ?hp1 ?hs1); (case hm1 => rfl); (case hp1 => kernel_rfl); intro ops K hops hK; clear hops; dsimp only [List.take]; (repeat (first | (refine Sq.seq_move rfl rfl ?_; simp only [Act.put, Act.eval, Array.getD_eq_getD_getElem?, List.getElem?_toArray, List.getElem?_cons_zero, List.getElem?_cons_succ, Option.getD_some, List.setIfInBounds_toArray, List.set_cons_zero, List.set_cons_succ]) | (refine Sq.seq_check rfl rfl rfl ?_; simp only [Act.put, Act.eval, Array.getD_eq_getD_getElem?, List.getElem?_toArray, List.getElem?_cons_zero, List.getElem?_cons_succ, Option.getD_some, List.setIfInBounds_toArray, List.set_cons_zero, List.set_cons_succ]) | (refine Sq.seq_load (t := 102) (fun X hX => hX.at1) (Sq.wanted_none rfl) rfl rfl pl_ps rfl ?_; simp only [Act.put, Act.eval, Array.getD_eq_getD_getElem?, List.getElem?_toArray, List.getElem?_cons_zero, List.getElem?_cons_succ, Option.getD_some, List.setIfInBounds_toArray, List.set_cons_zero, List.set_cons_succ]) | (refine Sq.seq_load (t := 22) (fun X hX => hX.stood HB.out id) (Sq.wanted_none rfl) rfl rfl pl_u64 (sv_ok _ (by decide)) ?_; simp only [Act.put, Act.eval, Array.getD_eq_getD_getElem?, List.getElem?_toArray, List.getElem?_cons_zero, List.getElem?_cons_succ, Option.getD_some, List.setIfInBounds_toArray, List.set_cons_zero, List.set_cons_succ, sv_dry, sv_now, sv_k, sv_fn, sv_rd, sv_rs1, sv_rs2, sv_imm, sv_sz, sv_sg, sv_long, sv_bits, sv_ek, sv_ea, sv_eva, sv_egpa, sv_ewalk, sv_ewrote, sv_was_pc, sv_was_user, sv_was_on, sv_was_spie, sv_was_spp, sv_was_sum, sv_was_mxr, sv_was_rsv, sv_was_stvec, sv_was_sscr, sv_was_sepc, sv_was_scause, sv_was_stval, sv_was_sie, sv_was_sip, sv_was_satp, sv_was_resv, sv_h_pc, sv_h_user, sv_h_on, sv_h_spie, sv_h_spp, sv_h_sum, sv_h_mxr, sv_h_rsv, sv_h_stvec, sv_h_sscr, sv_h_sepc, sv_h_scause, sv_h_stval, sv_h_sie, sv_h_sip, sv_h_satp, sv_h_resv, sv_c]) | (refine Sq.seq_load (t := 3) (fun X hX => hX.stood HB.out id) (Sq.wanted_none rfl) rfl rfl pl_int (sv_ok _ (by decide)) ?_; simp only [Act.put, Act.eval, Array.getD_eq_getD_getElem?, List.getElem?_toArray, List.getElem?_cons_zero, List.getElem?_cons_succ, Option.getD_some, List.setIfInBounds_toArray, List.set_cons_zero, List.set_cons_succ, sv_dry, sv_now, sv_k, sv_fn, sv_rd, sv_rs1, sv_rs2, sv_imm, sv_sz, sv_sg, sv_long, sv_bits, sv_ek, sv_ea, sv_eva, sv_egpa, sv_ewalk, sv_ewrote, sv_was_pc, sv_was_user, sv_was_on, sv_was_spie, sv_was_spp, sv_was_sum, sv_was_mxr, sv_was_rsv, sv_was_stvec, sv_was_sscr, sv_was_sepc, sv_was_scause, sv_was_stval, sv_was_sie, sv_was_sip, sv_was_satp, sv_was_resv, sv_h_pc, sv_h_user, sv_h_on, sv_h_spie, sv_h_spp, sv_h_sum, sv_h_mxr, sv_h_rsv, sv_h_stvec, sv_h_sscr, sv_h_sepc, sv_h_scause, sv_h_stval, sv_h_sie, sv_h_sip, sv_h_satp, sv_h_resv, sv_c]) | (refine Sq.seq_load (t := 4) (fun X hX => hX.stood HB.out id) (Sq.wanted_none rfl) rfl rfl pl_bool (sv_ok _ (by decide)) ?_; simp only [Act.put, Act.eval, Array.getD_eq_getD_getElem?, List.getElem?_toArray, List.getElem?_cons_zero, List.getElem?_cons_succ, Option.getD_some, List.setIfInBounds_toArray, List.set_cons_zero, List.set_cons_succ, sv_dry, sv_now, sv_k, sv_fn, sv_rd, sv_rs1, sv_rs2, sv_imm, sv_sz, sv_sg, sv_long, sv_bits, sv_ek, sv_ea, sv_eva, sv_egpa, sv_ewalk, sv_ewrote, sv_was_pc, sv_was_user, sv_was_on, sv_was_spie, sv_was_spp, sv_was_sum, sv_was_mxr, sv_was_rsv, sv_was_stvec, sv_was_sscr, sv_was_sepc, sv_was_scause, sv_was_stval, sv_was_sie, sv_was_sip, sv_was_satp, sv_was_resv, sv_h_pc, sv_h_user, sv_h_on, sv_h_spie, sv_h_spp, sv_h_sum, sv_h_mxr, sv_h_rsv, sv_h_stvec, sv_h_sscr, sv_h_sepc, sv_h_scause, sv_h_stval, sv_h_sie, sv_h_sip, sv_h_satp, sv_h_resv, sv_c]) | (refine' Sq.seq_pure rfl (fun X => _) _; rotate_left; (first | (go_simp; done) | (go_simp; rfl)); simp only [Act.put, Act.eval, Array.getD_eq_getD_getElem?, List.getElem?_toArray, List.getElem?_cons_zero, List.getElem?_cons_succ, Option.getD_some, List.setIfInBounds_toArray, List.set_cons_zero, List.set_cons_succ]))); refine Sq.seq_nil ?_; refine hK.out _ fun w1 hk => ?_; clear hK; replace ST := Lib.hid hk; clear hk; dsimp only [List.drop])
    | ((with_reducible refine Step.gate_box (t := 143) rfl ?_); refine Step.fresh (cs := #[.nilFunc, .int .u64 0, .int .i64 0, .int .u64 s.was.satp, .int .u64 0, .bool s.was.user, .bool s.was.sum, .bool s.was.mxr]) (T := 143) rfl ?hr ?_; (case hr => first | (go_simp; done) | (go_simp; rfl)); intro g12 w1 b hg hb; replace ST := Lib.hid (ST.out.made b hg hb); clear b hg hb)
    | ((with_reducible refine Step.gate_store (t := 139) rfl ?_); refine Step.store ST.out.at0 rfl rfl rfl rfl rfl pl_fn rfl rfl ?_; intro w3 nb m; replace ST := Lib.hid (ST.out.set0 nb m); clear nb m)
    | (go_at_call 55; (with_reducible refine (go_off ST.out.at0 rfl HS.out HS0.out _ _).mono ?_); rintro e w' ⟨rfl, hb⟩; replace ST := Lib.hid (ST.out.call hb); clear hb)
    | ((with_reducible refine Step.gate_load (t := 102) rfl ?_); refine Step.load ST.out.at2 rfl rfl rfl pl_ps rfl ?_)
    | ((with_reducible refine Step.gate_load (t := 4) rfl ?_); refine Step.load ST.out.at1 rfl rfl rfl pl_bool rfl ?_)
    | (go_at_call 154; (with_reducible refine (second_off (ST.out.stood HB.out id) (ST.out.stood HC.out id) _ _).mono ?_); rintro e w' ⟨rfl, hb⟩; replace ST := Lib.hid (ST.out.call hb); clear hb)
    | ((with_reducible refine Step.gate_load (t := 102) rfl ?_); refine Step.loadG ST.out.at2 rfl rfl rfl pl_ps rfl ?_)
    | ((with_reducible refine Step.gate_load (t := 51) rfl ?_); refine Step.loadG (ST.out.stood HB.out id) rfl rfl rfl pl_pc (sv_ok _ (by decide)) ?_; simp only [sv_c])
    | ((with_reducible refine Step.gate_load (t := 30) rfl ?_); refine Step.loadG (ST.out.stood HC.out id) rfl rfl rfl pl_pm cc_m ?_)
    | (go_at_call 9; (with_reducible refine (HH.out _ (ST.out.mod)).mono ?_); rintro e w' ⟨rfl, hb⟩; replace ST := Lib.hid (ST.out.call (Enc.below_drawn hb)); clear hb))
  refine bodyPost_ret (results3 rfl _ _) rfl ?_
  exact ⟨rfl, ST.out.below⟩
end Go.Proofs.YtidiojhefjhojaaGreat.Hart
end
section
namespace Go.Proofs.YtidiojhefjhojaaGreat.Hart
open Go Go.RowKit Go.Proofs.YtidiojhefjhojaaGreat.Step Go.Proofs.YtidiojhefjhojaaGreat.Enc Go.Proofs.YtidiojhefjhojaaGreat.Kn
open Go.Proofs.YtidiojhefjhojaaGreat.Mem (Ram Grow hasB wholeB num wr)
set_option linter.unusedVariables false
set_option linter.unusedSimpArgs false
set_option maxRecDepth 100000
/-- What a part of a step leaves: the step, the memory; what else stood is as it was. -/
def Out (W w' : World) (gs : Nat) (s' : Stp) (gm : Nat) (tv : Value) (root vmid : Int) (km : Value) (base : Int) (n : Nat) (mem' : Nat → Int) (F G : Nat → Prop) (T : World → Prop) : Prop :=
  ∃ F', Sy w' gs s' gm tv root vmid km base n mem' F' G T ∧ Mod (fun k => k = gs ∨ F k) W w' ∧ ∀ k, F' k → F k ∨ W.heap.size ≤ k
section
variable {W w w' : World} {gs gm n : Nat} {s s' : Stp} {tv km : Value} {root vmid base : Int} {mem mem' : Nat → Int} {F G : Nat → Prop} {T : World → Prop}
theorem Sy.out (h : Sy W gs s gm tv root vmid km base n mem F G T) : Out W W gs s gm tv root vmid km base n mem F G T := ⟨F, h, Mod.refl _ _, fun k h => .inl h⟩
theorem Out.set (h : Out W w gs s gm tv root vmid km base n mem F G T) (nb : Blk w' gs (sc s') TS) (m : Mod (One gs) w w') (hg : s'.gc = s.gc) : Out W w' gs s' gm tv root vmid km base n mem F G T := by
  obtain ⟨F', a, b, c⟩ := h
  exact ⟨F', a.set nb m hg, b.trans_new m fun k _ e => .inl e, c⟩
theorem Out.below (h : Out W w gs s gm tv root vmid km base n mem F G T) (b : Below w.heap.size w w') : Out W w' gs s gm tv root vmid km base n mem F G T := by
  obtain ⟨F', a, m, c⟩ := h
  exact ⟨F', a.below b, m.trans (Mod.of_below b _), c⟩
theorem Out.ahead (h : Out w w' gs s gm tv root vmid km base n mem F G T) (b : Below W.heap.size W w) : Out W w' gs s gm tv root vmid km base n mem F G T := by
  obtain ⟨F', a, m, c⟩ := h
  exact ⟨F', a, (Mod.of_below b _).trans m, fun k hk => (c k hk).imp id fun h => Nat.le_trans b.size h⟩
theorem Out.after (h : Out w w' gs s' gm tv root vmid km base n mem' F G T) (h0 : Sy W gs s gm tv root vmid km base n mem F G T) (nb : Mod (One gs) W w) : Out W w' gs s' gm tv root vmid km base n mem' F G T := by
  obtain ⟨F', a, m, c⟩ := h
  exact ⟨F', a, (nb.mono fun k _ e => .inl e).trans m, fun k hk => (c k hk).imp id fun h => Nat.le_trans nb.size h⟩
theorem Out.wrote (h0 : Sy w gs s gm tv root vmid km base n mem F G T) (hm : Mod (fun k => k = gs ∨ F k) W w) (r : Ram w' gm base n mem' (Grow F w w')) (m : Mod F w w') : Out W w' gs s gm tv root vmid km base n mem' F G T :=
  ⟨_, h0.wrote r m, hm.trans_new m fun k _ e => .inr e, fun k hk => hk.imp id fun e => Nat.le_trans hm.size e.1⟩
end
def storeP (s : Stp) (gpa : Int) : Stp := { s with ewrote := true, egpa := gpa }
theorem read_zz {W : World} {h n : Nat} {base : Int} {mem : Nat → Int} {F : Nat → Prop} (r : Ram W h base n mem F) (addr z : Int) (k : Nat) (hz : z = k) (ha : 0 ≤ addr ∧ addr < 18446744073709551616) (h1 : wholeB k = true) (h2 : hasB base n addr k = true) :
    Calls Tryz.prog 10 #[.pointer (some ⟨h, 0, none⟩), .int .u64 addr, .int .i64 z] W fun e W' => e = .returned (.tuple #[.int .u64 (num mem (addr - base).toNat k), .bool true]) ∧ ∃ k, W' = W.drewN k := by
  subst hz; exact Mem.read_yes r addr k ha h1 h2
set_option maxHeartbeats 4000000 in
theorem load_yes {W : World} {gs gm n : Nat} {s : Stp} {tv km : Value} {vmid base : Int} {mem : Nat → Int} {F G : Nat → Prop} {T : World → Prop} (h : Sy W gs s gm tv 0 vmid km base n mem F G T) (hs : s.was.satp / 1152921504606846976 = 0) (hs0 : U64 s.was.satp) {va z : Int} {k : Nat} (hz : z = k) (hva : U64 va) (hw : wholeB k = true) (hh : hasB base n va k = true) (a : Int) : Calls Tryz.prog 92 #[.pointer (some ⟨gs, 0, none⟩), .int .u64 va, .int .i64 z, .int .i64 a] W fun e w' => e = .returned (.tuple #[.int .u64 (num mem (va - base).toNat k), .bool true]) ∧ Below W.heap.size W w' := by
  have TR := Lib.hid (fun (W' : World) (b : Below W.heap.size W W') => reach_true (h.below b).step (h.below b).mc.core (h.below b).ne (h.below b).mc.ram (h.below b).nF hs hs0 hva (size := z) (by have := of_decide_eq_true hw; omega) (by rw [hz]; exact hh) a)
  have TD := Lib.hid (fun (W' : World) (b : Below W.heap.size W W') => read_zz (h.below b).mc.ram va z k hz hva.out hw hh)
  have HY := Lib.hid h
  have HB := Lib.hid (Below.refl _ _ : Below W.heap.size W W)
  clear h hs hs0 hz hva hw hh
  go_enter Tryz.func92, Tryz.ntmps92
  go_wp2_with (first
    | ((with_reducible refine Step.gate_load (t := 22) rfl ?_); refine Step.load (HY.out.below HB.out).step rfl rfl rfl pl_u64 (sv_ok _ (by decide)) ?_; simp only [sv_dry, sv_now, sv_k, sv_fn, sv_rd, sv_rs1, sv_rs2, sv_imm, sv_sz, sv_sg, sv_long, sv_bits, sv_ek, sv_ea, sv_eva, sv_egpa, sv_ewalk, sv_ewrote, sv_was_pc, sv_was_user, sv_was_on, sv_was_spie, sv_was_spp, sv_was_sum, sv_was_mxr, sv_was_rsv, sv_was_stvec, sv_was_sscr, sv_was_sepc, sv_was_scause, sv_was_stval, sv_was_sie, sv_was_sip, sv_was_satp, sv_was_resv, sv_h_pc, sv_h_user, sv_h_on, sv_h_spie, sv_h_spp, sv_h_sum, sv_h_mxr, sv_h_rsv, sv_h_stvec, sv_h_sscr, sv_h_sepc, sv_h_scause, sv_h_stval, sv_h_sie, sv_h_sip, sv_h_satp, sv_h_resv, sv_c])
    | ((with_reducible refine Step.gate_load (t := 3) rfl ?_); refine Step.load (HY.out.below HB.out).step rfl rfl rfl pl_int (sv_ok _ (by decide)) ?_; simp only [sv_dry, sv_now, sv_k, sv_fn, sv_rd, sv_rs1, sv_rs2, sv_imm, sv_sz, sv_sg, sv_long, sv_bits, sv_ek, sv_ea, sv_eva, sv_egpa, sv_ewalk, sv_ewrote, sv_was_pc, sv_was_user, sv_was_on, sv_was_spie, sv_was_spp, sv_was_sum, sv_was_mxr, sv_was_rsv, sv_was_stvec, sv_was_sscr, sv_was_sepc, sv_was_scause, sv_was_stval, sv_was_sie, sv_was_sip, sv_was_satp, sv_was_resv, sv_h_pc, sv_h_user, sv_h_on, sv_h_spie, sv_h_spp, sv_h_sum, sv_h_mxr, sv_h_rsv, sv_h_stvec, sv_h_sscr, sv_h_sepc, sv_h_scause, sv_h_stval, sv_h_sie, sv_h_sip, sv_h_satp, sv_h_resv, sv_c])
    | ((with_reducible refine Step.gate_load (t := 4) rfl ?_); refine Step.load (HY.out.below HB.out).step rfl rfl rfl pl_bool (sv_ok _ (by decide)) ?_; simp only [sv_dry, sv_now, sv_k, sv_fn, sv_rd, sv_rs1, sv_rs2, sv_imm, sv_sz, sv_sg, sv_long, sv_bits, sv_ek, sv_ea, sv_eva, sv_egpa, sv_ewalk, sv_ewrote, sv_was_pc, sv_was_user, sv_was_on, sv_was_spie, sv_was_spp, sv_was_sum, sv_was_mxr, sv_was_rsv, sv_was_stvec, sv_was_sscr, sv_was_sepc, sv_was_scause, sv_was_stval, sv_was_sie, sv_was_sip, sv_was_satp, sv_was_resv, sv_h_pc, sv_h_user, sv_h_on, sv_h_spie, sv_h_spp, sv_h_sum, sv_h_mxr, sv_h_rsv, sv_h_stvec, sv_h_sscr, sv_h_sepc, sv_h_scause, sv_h_stval, sv_h_sie, sv_h_sip, sv_h_satp, sv_h_resv, sv_c])
    | ((with_reducible refine Step.gate_load (t := 51) rfl ?_); refine Step.load (HY.out.below HB.out).step rfl rfl rfl pl_pc (sv_ok _ (by decide)) ?_; simp only [sv_c])
    | ((with_reducible refine Step.gate_load (t := 30) rfl ?_); refine Step.load (HY.out.below HB.out).mc.core rfl rfl rfl pl_pm cc_m ?_)
    | (go_at_call 138; (with_reducible refine (TR.out _ HB.out).mono ?_); rintro e w' ⟨rfl, hb⟩; replace HB := Lib.hid (below_below HB.out hb); clear hb)
    | (go_at_call 10; (with_reducible refine (TD.out _ HB.out).mono ?_); rintro e w' ⟨rfl, hb⟩; replace HB := Lib.hid (below_below HB.out (Enc.below_drawn hb)); clear hb))
  refine bodyPost_ret (results_tmp2 rfl _ _ _) rfl ?_
  exact ⟨rfl, HB.out⟩
set_option maxHeartbeats 4000000 in
theorem store_any {W : World} {gs gm n : Nat} {s : Stp} {tv km : Value} {vmid base : Int} {mem : Nat → Int} {F G : Nat → Prop} {T : World → Prop} (h : Sy W gs s gm tv 0 vmid km base n mem F G T) (hdry : s.dry = false) {k : Nat} (hz : s.sz = k) {pa gpa v : Int} (hpa : U64 pa) (hv : U64 v) (hw : wholeB k = true) (hh : hasB base n pa k = true) :
    Calls Tryz.prog 139 #[.pointer (some ⟨gs, 0, none⟩), .int .u64 pa, .int .u64 gpa, .int .u64 v] W fun e w' => e = .returned (.tuple #[]) ∧ Out W w' gs (storeP s gpa) gm tv 0 vmid km base n (wr mem (pa - base).toNat k v) F G T := by
  have TW := Lib.hid (fun (W' : World) (s' : Stp) (y : Sy W' gs s' gm tv 0 vmid km base n mem F G T) => Mem.write_yes y.mc.ram pa v k hpa.out hv.out hw hh)
  have HY := Lib.hid h
  have ST := Lib.hid (Kn.start (S := One gs) h.step rfl)
  clear h hpa hv hw hh
  go_enter Tryz.func139, Tryz.ntmps139
  go_wp2_with (first
    | ((with_reducible refine Step.gate_store (t := 22) rfl ?_); refine Step.store ST.out.at0 rfl rfl rfl rfl rfl pl_u64 rfl rfl ?_; intro w3 nb m; simp [go_sem, sst_dry, sst_now, sst_k, sst_fn, sst_rd, sst_rs1, sst_rs2, sst_imm, sst_sz, sst_sg, sst_long, sst_bits, sst_ek, sst_ea, sst_eva, sst_egpa, sst_ewalk, sst_ewrote, sst_h_pc, sst_h_user, sst_h_on, sst_h_spie, sst_h_spp, sst_h_sum, sst_h_mxr, sst_h_rsv, sst_h_stvec, sst_h_sscr, sst_h_sepc, sst_h_scause, sst_h_stval, sst_h_sie, sst_h_sip, sst_h_satp, sst_h_resv, sst_h_x0] at nb; replace ST := Lib.hid (ST.out.set0 nb m); clear nb m)
    | ((with_reducible refine Step.gate_store (t := 3) rfl ?_); refine Step.store ST.out.at0 rfl rfl rfl rfl rfl pl_int rfl rfl ?_; intro w3 nb m; simp [go_sem, sst_dry, sst_now, sst_k, sst_fn, sst_rd, sst_rs1, sst_rs2, sst_imm, sst_sz, sst_sg, sst_long, sst_bits, sst_ek, sst_ea, sst_eva, sst_egpa, sst_ewalk, sst_ewrote, sst_h_pc, sst_h_user, sst_h_on, sst_h_spie, sst_h_spp, sst_h_sum, sst_h_mxr, sst_h_rsv, sst_h_stvec, sst_h_sscr, sst_h_sepc, sst_h_scause, sst_h_stval, sst_h_sie, sst_h_sip, sst_h_satp, sst_h_resv, sst_h_x0] at nb; replace ST := Lib.hid (ST.out.set0 nb m); clear nb m)
    | ((with_reducible refine Step.gate_store (t := 4) rfl ?_); refine Step.store ST.out.at0 rfl rfl rfl rfl rfl pl_bool rfl rfl ?_; intro w3 nb m; simp [go_sem, sst_dry, sst_now, sst_k, sst_fn, sst_rd, sst_rs1, sst_rs2, sst_imm, sst_sz, sst_sg, sst_long, sst_bits, sst_ek, sst_ea, sst_eva, sst_egpa, sst_ewalk, sst_ewrote, sst_h_pc, sst_h_user, sst_h_on, sst_h_spie, sst_h_spp, sst_h_sum, sst_h_mxr, sst_h_rsv, sst_h_stvec, sst_h_sscr, sst_h_sepc, sst_h_scause, sst_h_stval, sst_h_sie, sst_h_sip, sst_h_satp, sst_h_resv, sst_h_x0] at nb; replace ST := Lib.hid (ST.out.set0 nb m); clear nb m)
    | ((with_reducible refine Step.gate_load (t := 22) rfl ?_); refine Step.load ST.out.at0 rfl rfl rfl pl_u64 (sv_ok _ (by decide)) ?_; simp only [sv_dry, sv_now, sv_k, sv_fn, sv_rd, sv_rs1, sv_rs2, sv_imm, sv_sz, sv_sg, sv_long, sv_bits, sv_ek, sv_ea, sv_eva, sv_egpa, sv_ewalk, sv_ewrote, sv_was_pc, sv_was_user, sv_was_on, sv_was_spie, sv_was_spp, sv_was_sum, sv_was_mxr, sv_was_rsv, sv_was_stvec, sv_was_sscr, sv_was_sepc, sv_was_scause, sv_was_stval, sv_was_sie, sv_was_sip, sv_was_satp, sv_was_resv, sv_h_pc, sv_h_user, sv_h_on, sv_h_spie, sv_h_spp, sv_h_sum, sv_h_mxr, sv_h_rsv, sv_h_stvec, sv_h_sscr, sv_h_sepc, sv_h_scause, sv_h_stval, sv_h_sie, sv_h_sip, sv_h_satp, sv_h_resv, sv_c, hdry])
    | ((with_reducible refine Step.gate_load (t := 3) rfl ?_); refine Step.load ST.out.at0 rfl rfl rfl pl_int (sv_ok _ (by decide)) ?_; simp only [sv_dry, sv_now, sv_k, sv_fn, sv_rd, sv_rs1, sv_rs2, sv_imm, sv_sz, sv_sg, sv_long, sv_bits, sv_ek, sv_ea, sv_eva, sv_egpa, sv_ewalk, sv_ewrote, sv_was_pc, sv_was_user, sv_was_on, sv_was_spie, sv_was_spp, sv_was_sum, sv_was_mxr, sv_was_rsv, sv_was_stvec, sv_was_sscr, sv_was_sepc, sv_was_scause, sv_was_stval, sv_was_sie, sv_was_sip, sv_was_satp, sv_was_resv, sv_h_pc, sv_h_user, sv_h_on, sv_h_spie, sv_h_spp, sv_h_sum, sv_h_mxr, sv_h_rsv, sv_h_stvec, sv_h_sscr, sv_h_sepc, sv_h_scause, sv_h_stval, sv_h_sie, sv_h_sip, sv_h_satp, sv_h_resv, sv_c, hdry])
    | ((with_reducible refine Step.gate_load (t := 4) rfl ?_); refine Step.load ST.out.at0 rfl rfl rfl pl_bool (sv_ok _ (by decide)) ?_; simp only [sv_dry, sv_now, sv_k, sv_fn, sv_rd, sv_rs1, sv_rs2, sv_imm, sv_sz, sv_sg, sv_long, sv_bits, sv_ek, sv_ea, sv_eva, sv_egpa, sv_ewalk, sv_ewrote, sv_was_pc, sv_was_user, sv_was_on, sv_was_spie, sv_was_spp, sv_was_sum, sv_was_mxr, sv_was_rsv, sv_was_stvec, sv_was_sscr, sv_was_sepc, sv_was_scause, sv_was_stval, sv_was_sie, sv_was_sip, sv_was_satp, sv_was_resv, sv_h_pc, sv_h_user, sv_h_on, sv_h_spie, sv_h_spp, sv_h_sum, sv_h_mxr, sv_h_rsv, sv_h_stvec, sv_h_sscr, sv_h_sepc, sv_h_scause, sv_h_stval, sv_h_sie, sv_h_sip, sv_h_satp, sv_h_resv, sv_c, hdry])
    | ((with_reducible refine Sq.region (id := 2) (I := fun X => Kn _ _ X _) ?hm1 14 ST.out.drew ?hp1 ?hs1); (case hm1 => rfl); (case hp1 => kernel_rfl); intro ops K hops hK; clear hops; dsimp only [List.take]; (repeat (first | (refine Sq.seq_move rfl rfl ?_; simp only [Act.put, Act.eval, Array.getD_eq_getD_getElem?, List.getElem?_toArray, List.getElem?_cons_zero, List.getElem?_cons_succ, Option.getD_some, List.setIfInBounds_toArray, List.set_cons_zero, List.set_cons_succ]) | (refine Sq.seq_check rfl rfl rfl ?_; simp only [Act.put, Act.eval, Array.getD_eq_getD_getElem?, List.getElem?_toArray, List.getElem?_cons_zero, List.getElem?_cons_succ, Option.getD_some, List.setIfInBounds_toArray, List.set_cons_zero, List.set_cons_succ]) | (refine Sq.seq_load (t := 22) (fun X hX => hX.at0) (Sq.wanted_none rfl) rfl rfl pl_u64 (sv_ok _ (by decide)) ?_; simp only [Act.put, Act.eval, Array.getD_eq_getD_getElem?, List.getElem?_toArray, List.getElem?_cons_zero, List.getElem?_cons_succ, Option.getD_some, List.setIfInBounds_toArray, List.set_cons_zero, List.set_cons_succ, sv_dry, sv_now, sv_k, sv_fn, sv_rd, sv_rs1, sv_rs2, sv_imm, sv_sz, sv_sg, sv_long, sv_bits, sv_ek, sv_ea, sv_eva, sv_egpa, sv_ewalk, sv_ewrote, sv_was_pc, sv_was_user, sv_was_on, sv_was_spie, sv_was_spp, sv_was_sum, sv_was_mxr, sv_was_rsv, sv_was_stvec, sv_was_sscr, sv_was_sepc, sv_was_scause, sv_was_stval, sv_was_sie, sv_was_sip, sv_was_satp, sv_was_resv, sv_h_pc, sv_h_user, sv_h_on, sv_h_spie, sv_h_spp, sv_h_sum, sv_h_mxr, sv_h_rsv, sv_h_stvec, sv_h_sscr, sv_h_sepc, sv_h_scause, sv_h_stval, sv_h_sie, sv_h_sip, sv_h_satp, sv_h_resv, sv_c, hz]) | (refine Sq.seq_load (t := 3) (fun X hX => hX.at0) (Sq.wanted_none rfl) rfl rfl pl_int (sv_ok _ (by decide)) ?_; simp only [Act.put, Act.eval, Array.getD_eq_getD_getElem?, List.getElem?_toArray, List.getElem?_cons_zero, List.getElem?_cons_succ, Option.getD_some, List.setIfInBounds_toArray, List.set_cons_zero, List.set_cons_succ, sv_dry, sv_now, sv_k, sv_fn, sv_rd, sv_rs1, sv_rs2, sv_imm, sv_sz, sv_sg, sv_long, sv_bits, sv_ek, sv_ea, sv_eva, sv_egpa, sv_ewalk, sv_ewrote, sv_was_pc, sv_was_user, sv_was_on, sv_was_spie, sv_was_spp, sv_was_sum, sv_was_mxr, sv_was_rsv, sv_was_stvec, sv_was_sscr, sv_was_sepc, sv_was_scause, sv_was_stval, sv_was_sie, sv_was_sip, sv_was_satp, sv_was_resv, sv_h_pc, sv_h_user, sv_h_on, sv_h_spie, sv_h_spp, sv_h_sum, sv_h_mxr, sv_h_rsv, sv_h_stvec, sv_h_sscr, sv_h_sepc, sv_h_scause, sv_h_stval, sv_h_sie, sv_h_sip, sv_h_satp, sv_h_resv, sv_c, hz]) | (refine Sq.seq_load (t := 4) (fun X hX => hX.at0) (Sq.wanted_none rfl) rfl rfl pl_bool (sv_ok _ (by decide)) ?_; simp only [Act.put, Act.eval, Array.getD_eq_getD_getElem?, List.getElem?_toArray, List.getElem?_cons_zero, List.getElem?_cons_succ, Option.getD_some, List.setIfInBounds_toArray, List.set_cons_zero, List.set_cons_succ, sv_dry, sv_now, sv_k, sv_fn, sv_rd, sv_rs1, sv_rs2, sv_imm, sv_sz, sv_sg, sv_long, sv_bits, sv_ek, sv_ea, sv_eva, sv_egpa, sv_ewalk, sv_ewrote, sv_was_pc, sv_was_user, sv_was_on, sv_was_spie, sv_was_spp, sv_was_sum, sv_was_mxr, sv_was_rsv, sv_was_stvec, sv_was_sscr, sv_was_sepc, sv_was_scause, sv_was_stval, sv_was_sie, sv_was_sip, sv_was_satp, sv_was_resv, sv_h_pc, sv_h_user, sv_h_on, sv_h_spie, sv_h_spp, sv_h_sum, sv_h_mxr, sv_h_rsv, sv_h_stvec, sv_h_sscr, sv_h_sepc, sv_h_scause, sv_h_stval, sv_h_sie, sv_h_sip, sv_h_satp, sv_h_resv, sv_c, hz]) | (refine Sq.seq_load (t := 51) (fun X hX => hX.at0) (Sq.wanted_none rfl) rfl rfl pl_pc (sv_ok _ (by decide)) ?_; simp only [Act.put, Act.eval, Array.getD_eq_getD_getElem?, List.getElem?_toArray, List.getElem?_cons_zero, List.getElem?_cons_succ, Option.getD_some, List.setIfInBounds_toArray, List.set_cons_zero, List.set_cons_succ, sv_c]) | (refine Sq.seq_load (t := 30) (fun X hX => (HY.out.set (s' := storeP s gpa) hX.at0 hX.mod rfl).mc.core) (Sq.wanted_none rfl) rfl rfl pl_pm cc_m ?_; simp only [Act.put, Act.eval, Array.getD_eq_getD_getElem?, List.getElem?_toArray, List.getElem?_cons_zero, List.getElem?_cons_succ, Option.getD_some, List.setIfInBounds_toArray, List.set_cons_zero, List.set_cons_succ]) | (refine' Sq.seq_pure rfl (fun X => _) _; rotate_left; (first | (go_simp; done) | (go_simp; rfl)); simp only [Act.put, Act.eval, Array.getD_eq_getD_getElem?, List.getElem?_toArray, List.getElem?_cons_zero, List.getElem?_cons_succ, Option.getD_some, List.setIfInBounds_toArray, List.set_cons_zero, List.set_cons_succ]))); refine Sq.seq_nil ?_; refine hK.out _ fun w1 hk => ?_; clear hK; have HO := Lib.hid (HY.out.set (s' := storeP s gpa) hk.at0 hk.mod rfl); have HP := Lib.hid hk.mod; clear hk; dsimp only [List.drop])
    | (go_at_call 48; (with_reducible refine (TW.out _ _ HO.out).mono ?_); rintro e w' ⟨rfl, hr, hm⟩; have HR := Lib.hid hr; have HM := Lib.hid hm; clear hr hm))
  all_goals (first | go_ret | go_end0 | refine bodyPost_ret (results_none rfl _ _ _) rfl ?_)
  exact ⟨rfl, Out.wrote HO.out (HP.out.mono fun k _ e => .inl e) HR.out HM.out⟩
end Go.Proofs.YtidiojhefjhojaaGreat.Hart
end
