/- Parts of the walks and laws for the claim: Run, Once, Step2, Own; no conditions beyond the theorems' own. -/
import Derived.ChangeAlike
import Derived.Defers
import Derived.Laws.LoneSync
import Derived.Laws.Pointers
import Derived.RegionCalls
import Derived.RegionTactic
import Derived.Tactics
import Derived.Tactics2
import Derived.Test.YthkodjkkcgdmfaaGreatT7
import Derived.Test.YthkodjkkcgdmfaaGreatT9
import Derived.Test.YthkodjkkcgdmfaaGreatT11
import Derived.Test.YthkodjkkcgdmfaaGreatT14
section
namespace Go.Proofs.YthkodjkkcgdmfaaGreat.Hart
open Go Go.RowKit Go.Proofs.YthkodjkkcgdmfaaGreat.Step Go.Proofs.YthkodjkkcgdmfaaGreat.Enc Go.Proofs.YthkodjkkcgdmfaaGreat.Kn
open Go.Proofs.YthkodjkkcgdmfaaGreat.Mem (Ram Grow hasB wholeB num wr)
set_option linter.unusedVariables false
set_option linter.unusedSimpArgs false
set_option maxRecDepth 100000
/-- What instructions do, by their kinds. -/
def kindsE : Array MapEntry := #[{ key := .int .i64 1, val := .func (.func 87) #[] #[], born := 0 }, { key := .int .i64 2, val := .func (.func 88) #[] #[], born := 1 }, { key := .int .i64 3, val := .func (.func 89) #[] #[], born := 2 }, { key := .int .i64 4, val := .func (.func 90) #[] #[], born := 3 }, { key := .int .i64 5, val := .func (.func 91) #[] #[], born := 4 }, { key := .int .i64 6, val := .func (.func 92) #[] #[], born := 5 }, { key := .int .i64 7, val := .func (.func 93) #[] #[], born := 6 }, { key := .int .i64 8, val := .func (.func 94) #[] #[], born := 7 }, { key := .int .i64 9, val := .func (.func 95) #[] #[], born := 8 }, { key := .int .i64 10, val := .func (.func 96) #[] #[], born := 9 }, { key := .int .i64 11, val := .func (.func 97) #[] #[], born := 10 }, { key := .int .i64 12, val := .func (.func 98) #[] #[], born := 11 }, { key := .int .i64 13, val := .func (.func 99) #[] #[], born := 12 }, { key := .int .i64 14, val := .func (.func 100) #[] #[], born := 13 }, { key := .int .i64 15, val := .func (.func 101) #[] #[], born := 14 }, { key := .int .i64 16, val := .func (.func 102) #[] #[], born := 15 }, { key := .int .i64 17, val := .func (.func 103) #[] #[], born := 16 }, { key := .int .i64 18, val := .func (.func 104) #[] #[], born := 17 }, { key := .int .i64 19, val := .func (.func 105) #[] #[], born := 18 }, { key := .int .i64 20, val := .func (.func 106) #[] #[], born := 19 }]
/-- The map of the kinds, and what belongs to the core besides. -/
def KT (r : Nat) (T : World → Prop) : World → Prop := fun w => w.heap[r]? = some (.map kindsE 20) ∧ T w
section
variable {W w' : World} {gs gm n : Nat} {s' : Stp} {tv km : Value} {root vmid base : Int} {mem' : Nat → Int} {F G : Nat → Prop} {T : World → Prop}
theorem Out.drew (h : Out W w' gs s' gm tv root vmid km base n mem' F G T) : Out W { w' with drawn := w'.drawn + 1 } gs s' gm tv root vmid km base n mem' F G T := h.below ⟨rfl, rfl, rfl, Nat.le_refl _, fun _ _ => rfl⟩
theorem Out.core (h : Out W w' gs s' gm tv root vmid km base n mem' F G T) : Blk w' s'.gc (ccells gm tv root vmid 1 km) TC := by obtain ⟨F', a, _⟩ := h; exact a.mc.core
theorem Out.tlb (h : Out W w' gs s' gm tv root vmid km base n mem' F G T) : T w' := by obtain ⟨F', a, _⟩ := h; exact a.mc.tlb
theorem Out.then {F1 : Nat → Prop} {w2 : World} (m : Mod (fun k => k = gs ∨ F k) W w') (c : ∀ k, F1 k → F k ∨ W.heap.size ≤ k) (h : Out w' w2 gs s' gm tv root vmid km base n mem' F1 G T) : Out W w2 gs s' gm tv root vmid km base n mem' F G T := by
  obtain ⟨F2, a2, m2, c2⟩ := h
  exact ⟨F2, a2, m.trans_new m2 fun i hi e => e.imp id fun hf => (c i hf).resolve_right (by omega), fun i hi => (c2 i hi).elim (c i) fun e => .inr (Nat.le_trans m.size e)⟩
end
theorem pl_km : Step.plainT Tryz.prog 127 = true := by kernel_rfl
theorem seq_look {P : Program} {ops : Array Oper} {I : World → Prop} {o : Oper} {rr : List Oper} {a : Act} {K : Act → Prop} {t kt et : TypeId} {m x : Operand} {r i : Nat} {k : Int} {es : Array MapEntry} {c : Nat} {v : Value} (hT : ∀ X, I X → X.heap[r]? = some (.map es c)) (hg : o.guard = none) (ho : o.op = .lookup t m x false) (hm : a.eval m = .map (some r)) (hx : a.eval x = .int .i64 k)
    (ht : P.underlying t = some (.map kt et)) (hk : P.underlying kt = some (.int .i64)) (hf : Instr.findNow (.int .i64) (.int .i64 k) es.toList 0 = some (some (i, v))) (h : Sq.Seq P ops I rr (a.put o.dst v) K) : Sq.Seq P ops I (o :: rr) a K :=
  Sq.seq_val (Sq.wanted_none hg) (fun X hX => by
    have := MapInt.run_look_one (P := P) ht hk hf X (hT X hX)
    simp [execOp, ho, hm, hx, this, Result.andThen]) h
set_option maxHeartbeats 4000000 in
theorem pending_no {W : World} {g : Nat} {s : Stp} (hb : Blk W g (sc s) TS) (hsie : s.was.sie = 0) : Calls Tryz.prog 60 #[.pointer (some ⟨g, 0, none⟩)] W fun e w' => e = .returned (.int .u64 0) ∧ Below W.heap.size W w' := by
  have e0 : bits .and .u64 s.was.sip 0 = 0 := by show IntKind.u64.wrap ((BitVec.ofInt 64 s.was.sip &&& 0).toNat : Int) = 0; first | (simp; done) | (simp; decide)
  have HB := Lib.hid hb
  have ST := Lib.hid (Kn.nil (S := Step.Nil) (W := W))
  clear hb
  go_enter Tryz.func60, Tryz.ntmps60
  go_wp2_with (first
    | ((with_reducible refine Sq.region (id := 1) (I := fun X => Below W.heap.size W X) ?hm4 10 (Below.refl _ _).drew ?hp4 ?hs4); (case hm4 => rfl); (case hp4 => kernel_rfl); intro ops K hops hK; clear hops; dsimp only [List.take]; (repeat (first | (refine Sq.seq_move rfl rfl ?_; simp only [Act.put, Act.eval, Array.getD_eq_getD_getElem?, List.getElem?_toArray, List.getElem?_cons_zero, List.getElem?_cons_succ, Option.getD_some, List.setIfInBounds_toArray, List.set_cons_zero, List.set_cons_succ]) | (refine Sq.seq_check rfl rfl rfl ?_; simp only [Act.put, Act.eval, Array.getD_eq_getD_getElem?, List.getElem?_toArray, List.getElem?_cons_zero, List.getElem?_cons_succ, Option.getD_some, List.setIfInBounds_toArray, List.set_cons_zero, List.set_cons_succ]) | (refine Sq.seq_load (t := 22) (fun X hX => HB.out.below hX) (Sq.wanted_none rfl) rfl rfl pl_u64 (sv_ok _ (by decide)) ?_; simp only [Act.put, Act.eval, Array.getD_eq_getD_getElem?, List.getElem?_toArray, List.getElem?_cons_zero, List.getElem?_cons_succ, Option.getD_some, List.setIfInBounds_toArray, List.set_cons_zero, List.set_cons_succ, sv_dry, sv_now, sv_k, sv_fn, sv_rd, sv_rs1, sv_rs2, sv_imm, sv_sz, sv_sg, sv_long, sv_bits, sv_ek, sv_ea, sv_eva, sv_egpa, sv_ewalk, sv_ewrote, sv_was_pc, sv_was_user, sv_was_on, sv_was_spie, sv_was_spp, sv_was_sum, sv_was_mxr, sv_was_rsv, sv_was_stvec, sv_was_sscr, sv_was_sepc, sv_was_scause, sv_was_stval, sv_was_sie, sv_was_sip, sv_was_satp, sv_was_resv, sv_h_pc, sv_h_user, sv_h_on, sv_h_spie, sv_h_spp, sv_h_sum, sv_h_mxr, sv_h_rsv, sv_h_stvec, sv_h_sscr, sv_h_sepc, sv_h_scause, sv_h_stval, sv_h_sie, sv_h_sip, sv_h_satp, sv_h_resv, sv_c, hsie]) | (refine Sq.seq_load (t := 3) (fun X hX => HB.out.below hX) (Sq.wanted_none rfl) rfl rfl pl_int (sv_ok _ (by decide)) ?_; simp only [Act.put, Act.eval, Array.getD_eq_getD_getElem?, List.getElem?_toArray, List.getElem?_cons_zero, List.getElem?_cons_succ, Option.getD_some, List.setIfInBounds_toArray, List.set_cons_zero, List.set_cons_succ, sv_dry, sv_now, sv_k, sv_fn, sv_rd, sv_rs1, sv_rs2, sv_imm, sv_sz, sv_sg, sv_long, sv_bits, sv_ek, sv_ea, sv_eva, sv_egpa, sv_ewalk, sv_ewrote, sv_was_pc, sv_was_user, sv_was_on, sv_was_spie, sv_was_spp, sv_was_sum, sv_was_mxr, sv_was_rsv, sv_was_stvec, sv_was_sscr, sv_was_sepc, sv_was_scause, sv_was_stval, sv_was_sie, sv_was_sip, sv_was_satp, sv_was_resv, sv_h_pc, sv_h_user, sv_h_on, sv_h_spie, sv_h_spp, sv_h_sum, sv_h_mxr, sv_h_rsv, sv_h_stvec, sv_h_sscr, sv_h_sepc, sv_h_scause, sv_h_stval, sv_h_sie, sv_h_sip, sv_h_satp, sv_h_resv, sv_c, hsie]) | (refine Sq.seq_load (t := 4) (fun X hX => HB.out.below hX) (Sq.wanted_none rfl) rfl rfl pl_bool (sv_ok _ (by decide)) ?_; simp only [Act.put, Act.eval, Array.getD_eq_getD_getElem?, List.getElem?_toArray, List.getElem?_cons_zero, List.getElem?_cons_succ, Option.getD_some, List.setIfInBounds_toArray, List.set_cons_zero, List.set_cons_succ, sv_dry, sv_now, sv_k, sv_fn, sv_rd, sv_rs1, sv_rs2, sv_imm, sv_sz, sv_sg, sv_long, sv_bits, sv_ek, sv_ea, sv_eva, sv_egpa, sv_ewalk, sv_ewrote, sv_was_pc, sv_was_user, sv_was_on, sv_was_spie, sv_was_spp, sv_was_sum, sv_was_mxr, sv_was_rsv, sv_was_stvec, sv_was_sscr, sv_was_sepc, sv_was_scause, sv_was_stval, sv_was_sie, sv_was_sip, sv_was_satp, sv_was_resv, sv_h_pc, sv_h_user, sv_h_on, sv_h_spie, sv_h_spp, sv_h_sum, sv_h_mxr, sv_h_rsv, sv_h_stvec, sv_h_sscr, sv_h_sepc, sv_h_scause, sv_h_stval, sv_h_sie, sv_h_sip, sv_h_satp, sv_h_resv, sv_c, hsie]) | (refine' Sq.seq_pure rfl (fun X => _) _; rotate_left; (first | (go_simp; done) | (go_simp; rfl)); simp only [Act.put, Act.eval, Array.getD_eq_getD_getElem?, List.getElem?_toArray, List.getElem?_cons_zero, List.getElem?_cons_succ, Option.getD_some, List.setIfInBounds_toArray, List.set_cons_zero, List.set_cons_succ]))); refine Sq.seq_nil ?_; refine hK.out _ fun w1 hk => ?_; clear hK; have BW := Lib.hid hk; clear hk; dsimp only [List.drop]))
  go_ret
  exact ⟨rfl, BW.out⟩
/-- The step behind the fetch and the decoding. -/
def decP (s : Stp) (w : Int) (i : Ins) : Stp := { s with bits := w, long := 4, k := i.k, fn := i.fn, rd := i.rd, rs1 := i.rs1, rs2 := i.rs2, imm := i.imm, sz := i.sz, sg := i.sg, h := { s.h with pc := addW s.was.pc 4 } }
def zeroX (s : Stp) : Stp := { s with h := { s.h with x := xup s.h.x 0 0 } }
end Go.Proofs.YthkodjkkcgdmfaaGreat.Hart
end
section
namespace Go.Proofs.YthkodjkkcgdmfaaGreat.Hart
open Go Go.RowKit Go.Proofs.YthkodjkkcgdmfaaGreat.Step Go.Proofs.YthkodjkkcgdmfaaGreat.Enc Go.Proofs.YthkodjkkcgdmfaaGreat.Kn
set_option linter.unusedVariables false
set_option linter.unusedSimpArgs false
set_option maxRecDepth 100000
def ccg (gm : Nat) (tv : Value) (root vmid done st : Int) (km : Value) : Array Value := #[.pointer (some ⟨gm, 0, none⟩), tv, .int .u64 root, .int .i64 vmid, .int .u32 done, .int .i32 st, .int .u32 0, km]
theorem disable (w : World) : (callFunc 170 #[]).run Tryz.prog w = .ok (.value (.tuple #[])) w := run_call_mark0 Tryz.func170 (by kernel_rfl) (by kernel_rfl) (by kernel_rfl) .disable (by kernel_rfl) w
theorem enable (w : World) : (callFunc 172 #[]).run Tryz.prog w = .ok (.value (.tuple #[])) w := run_call_mark0 Tryz.func172 (by kernel_rfl) (by kernel_rfl) (by kernel_rfl) .enable (by kernel_rfl) w
theorem acquire (a : Addr) (w : World) : (callFunc 173 #[.pointer (some a)]).run Tryz.prog w = .ok (.value (.tuple #[])) w := run_call_marked Tryz.func173 (by kernel_rfl) (by kernel_rfl) (by kernel_rfl) .acquire (by kernel_rfl) a w
theorem releaseMerge (a : Addr) (w : World) : (callFunc 175 #[.pointer (some a)]).run Tryz.prog w = .ok (.value (.tuple #[])) w := run_call_marked Tryz.func175 (by kernel_rfl) (by kernel_rfl) (by kernel_rfl) .releaseMerge (by kernel_rfl) a w
theorem ilock (a : Addr) (w : World) (hc : w.cell? a = some (.int .i32 0)) (hz : w.frozen? a = false) :
    Calls Tryz.prog 145 #[.pointer (some a)] w fun e w' => e = .returned (.tuple #[]) ∧ w' = w.setCell a (.int .i32 1) := by
  have hd := disable
  have he := enable
  have ha := acquire
  have hcas := run_call_cas_hit (P := Tryz.prog) Tryz.func171 (by kernel_rfl) (by kernel_rfl) (by kernel_rfl) .i32 (by kernel_rfl) (y := 1) hc hz
  have hc' : (w.setCell a (.int .i32 1)).cell? a = some (.int .i32 1) := World.cell?_setCell_same w a _ hc
  have hcv := run_convert_to_unsafe (P := Tryz.prog) (src := 211) (dst := 215) Tryz.underlying211 Tryz.underlying215 (by kernel_rfl) hc'
  go_enter Tryz.func145, Tryz.ntmps145
  go_wp2
  all_goals (first | go_end0 | (simp only [Exit.inBlock, Exit.then]; refine bodyPost_ret (results_none rfl _ _ _) rfl ?_) | refine bodyPost_ret (results_none rfl _ _ _) rfl ?_)
  all_goals exact ⟨rfl, rfl⟩
theorem iunlock (a : Addr) (w : World) (hc : w.cell? a = some (.int .i32 1)) (hz : w.frozen? a = false) :
    Calls Tryz.prog 146 #[.pointer (some a)] w fun e w' => e = .returned (.tuple #[]) ∧ w' = w.setCell a (.int .i32 0) := by
  have hd := disable
  have he := enable
  have hr := releaseMerge
  have hadd := run_call_add (P := Tryz.prog) Tryz.func176 (by kernel_rfl) (by kernel_rfl) (by kernel_rfl) .i32 (by kernel_rfl) (y := -1) (s := 0) hc hz (by simp [go_sem]; rfl)
  have hcv := run_convert_to_unsafe (P := Tryz.prog) (src := 211) (dst := 215) Tryz.underlying211 Tryz.underlying215 (by kernel_rfl) hc
  go_enter Tryz.func146, Tryz.ntmps146
  go_wp2
  all_goals go_end0
  all_goals exact ⟨rfl, rfl⟩
theorem lock {w : World} {gc gm : Nat} {tv km : Value} {root vmid done : Int} (hb : Blk w gc (ccg gm tv root vmid done 0 km) TC) : Calls Tryz.prog 116 #[.pointer (some ⟨gc, 5, none⟩)] w fun e w' => e = .returned (.tuple #[]) ∧ Blk w' gc (ccg gm tv root vmid done 1 km) TC ∧ Mod (One gc) w w' := by
  have T0 := Lib.hid (ilock ⟨gc, 5, none⟩ w ((hb.cell 5).trans rfl) (hb.frozen 5))
  have HB := Lib.hid hb
  clear hb
  go_enter Tryz.func116, Tryz.ntmps116
  go_wp2_with (go_at_call 145; (with_reducible refine (T0.out).mono ?_); rintro e w' ⟨rfl, hw⟩; have HW := Lib.hid hw; clear hw)
  all_goals go_end0
  have e := HW.out
  subst e
  exact ⟨rfl, setCell_out _ _ _ _ _ _ HB.out, setCell_mod _ _ _ _⟩
theorem unlock {w : World} {gc gm : Nat} {tv km : Value} {root vmid done : Int} (hb : Blk w gc (ccg gm tv root vmid done 1 km) TC) (u : FrameMode) : CallsD Tryz.prog 117 #[.pointer (some ⟨gc, 5, none⟩)] u w fun e u' w' => u' = u ∧ (e = .returned (.tuple #[]) ∧ Blk w' gc (ccg gm tv root vmid done 0 km) TC ∧ Mod (One gc) w w') := by
  have T0 := Lib.hid (iunlock ⟨gc, 5, none⟩ w ((hb.cell 5).trans rfl) (hb.frozen 5))
  have HB := Lib.hid hb
  clear hb
  go_enter_d Tryz.func117, Tryz.ntmps117
  go_wp2_with (go_at_call 146; (with_reducible refine (T0.out).mono ?_); rintro e w' ⟨rfl, hw⟩; have HW := Lib.hid hw; clear hw)
  all_goals go_end0
  have e := HW.out
  subst e
  exact ⟨rfl, setCell_out _ _ _ _ _ _ HB.out, setCell_mod _ _ _ _⟩
theorem isDone {w : World} {gc gm : Nat} {tv km : Value} {root vmid done st : Int} (hb : Blk w gc (ccg gm tv root vmid done st km) TC) (b : Bool) (hd : (done != 0) = b) : Calls Tryz.prog 85 #[.pointer (some ⟨gc, 4, none⟩)] w fun e w' => e = .returned (.bool b) ∧ w' = w := by
  have hl := run_call_load (P := Tryz.prog) Tryz.func115 (by kernel_rfl) (by kernel_rfl) (by kernel_rfl) .u32 (by kernel_rfl) (w := w) (a := ⟨gc, 4, none⟩) (x := done) ((hb.cell 4).trans rfl)
  clear hb
  go_enter Tryz.func85, Tryz.ntmps85
  go_wp2
  go_ret
  exact ⟨rfl, rfl⟩
theorem setDone {w : World} {gc gm : Nat} {tv km : Value} {root vmid done st : Int} (hb : Blk w gc (ccg gm tv root vmid done st km) TC) (u : FrameMode) : CallsD Tryz.prog 118 #[.pointer (some ⟨gc, 4, none⟩), .bool true] u w fun e u' w' => u' = u ∧ (e = .returned (.tuple #[]) ∧ Blk w' gc (ccg gm tv root vmid 1 st km) TC ∧ Mod (One gc) w w') := by
  have hc : w.drew.cell? ⟨gc, 4, none⟩ = some (.int .u32 done) := by rw [World.cell?_drew]; exact (hb.cell 4).trans rfl
  have hz : w.drew.frozen? ⟨gc, 4, none⟩ = false := hb.frozen 4
  have hst := run_call_store (P := Tryz.prog) Tryz.func147 (by kernel_rfl) (by kernel_rfl) (by kernel_rfl) (by kernel_rfl) (k := .u32) (y := 1) hc hz
  have HB := Lib.hid (show Blk w.drew gc (ccg gm tv root vmid done st km) TC from hb.below ⟨rfl, rfl, rfl, Nat.le_refl _, fun _ _ => rfl⟩)
  clear hb
  go_enter_d Tryz.func118, Tryz.ntmps118
  go_wp2
  go_region_calls
  all_goals (go_end0; exact ⟨rfl, setCell_out _ _ _ _ _ _ HB.out, (Mod.of_below (Below.drew (Below.refl _ _)) _).trans (setCell_mod _ _ _ _)⟩)
def kindE (n : Nat) : Array MapEntry := (kindsE.toList.take n).toArray
theorem kind_put (n : Nat) (k : Int) (v : Value) (hf : Instr.findNow (.int .i64) (.int .i64 k) (kindE n).toList 0 = some none) (he : (kindE n).push { key := .int .i64 k, val := v, born := n } = kindE (n + 1)) (W : World) :
    (Instr.mapUpdate 127 (.map (some W.heap.size)) (.int .i64 k) v).run Tryz.prog (W.alloc (.map (kindE n) n)) = .ok () (W.alloc (.map (kindE (n + 1)) (n + 1))) := by
  rw [← he]; exact MapInt.run_put Tryz.underlying127 Tryz.underlying3 _ _ _ _ hf W
theorem kind_make (W : World) : (Instr.makeMap 127 none).run Tryz.prog W = .ok (.map (some W.heap.size)) (W.alloc (.map (kindE 0) 0)) := by rfl
set_option maxHeartbeats 4000000 in
theorem kinds_calls (w : World) : Calls Tryz.prog 59 #[] w fun e w' => e = .returned (.map (some w.heap.size)) ∧ Below w.heap.size w w' ∧ w'.heap[w.heap.size]? = some (.map kindsE 20) := by
  have h0 := kind_make
  have g0 := kind_put 0 1 (.func (.func 87) #[] #[]) rfl rfl
  have g1 := kind_put 1 2 (.func (.func 88) #[] #[]) rfl rfl
  have g2 := kind_put 2 3 (.func (.func 89) #[] #[]) rfl rfl
  have g3 := kind_put 3 4 (.func (.func 90) #[] #[]) rfl rfl
  have g4 := kind_put 4 5 (.func (.func 91) #[] #[]) rfl rfl
  have g5 := kind_put 5 6 (.func (.func 92) #[] #[]) rfl rfl
  have g6 := kind_put 6 7 (.func (.func 93) #[] #[]) rfl rfl
  have g7 := kind_put 7 8 (.func (.func 94) #[] #[]) rfl rfl
  have g8 := kind_put 8 9 (.func (.func 95) #[] #[]) rfl rfl
  have g9 := kind_put 9 10 (.func (.func 96) #[] #[]) rfl rfl
  have g10 := kind_put 10 11 (.func (.func 97) #[] #[]) rfl rfl
  have g11 := kind_put 11 12 (.func (.func 98) #[] #[]) rfl rfl
  have g12 := kind_put 12 13 (.func (.func 99) #[] #[]) rfl rfl
  have g13 := kind_put 13 14 (.func (.func 100) #[] #[]) rfl rfl
  have g14 := kind_put 14 15 (.func (.func 101) #[] #[]) rfl rfl
  have g15 := kind_put 15 16 (.func (.func 102) #[] #[]) rfl rfl
  have g16 := kind_put 16 17 (.func (.func 103) #[] #[]) rfl rfl
  have g17 := kind_put 17 18 (.func (.func 104) #[] #[]) rfl rfl
  have g18 := kind_put 18 19 (.func (.func 105) #[] #[]) rfl rfl
  have g19 := kind_put 19 20 (.func (.func 106) #[] #[]) rfl rfl
  go_enter Tryz.func59, Tryz.ntmps59
  go_wp2
  go_ret
  exact ⟨rfl, alloc_below _ _, (MapKept.heap_alloc _ _).1⟩
set_option maxHeartbeats 4000000 in
theorem closure_calls {W : World} {b : Nat} {gc gm : Nat} {tv km : Value} {root vmid done st : Int} (hx : Blk W b #[.pointer (some ⟨gc, 0, none⟩)] 36) (hb : Blk W gc (ccg gm tv root vmid done st km) TC) : Calls Tryz.prog 58 #[.pointer (some ⟨b, 0, none⟩)] W fun e w' => e = .returned (.tuple #[]) ∧ Blk w' gc (ccg gm tv root vmid done st (.map (some W.heap.size))) TC ∧ Mod (One gc) W w' ∧ w'.heap[W.heap.size]? = some (.map kindsE 20) := by
  have HX := Lib.hid hx
  have HC := Lib.hid hb
  clear hx hb
  go_enter Tryz.func58, Tryz.ntmps58
  go_wp2_with (first
    | ((with_reducible refine Sq.regionJ (id := 0) (J := fun j X => Below W.heap.size W X ∧ (match j with | 0 => X.heap.size = W.heap.size | _ => X.heap[W.heap.size]? = some (.map kindsE 20))) ?hm5 2 [1] [.keep 0 1, .eff 0] ?hi5 ?hp5 ?hf5 ?hs5); (case hm5 => rfl); (case hi5 => exact ⟨(Below.refl _ _).drew, rfl⟩); (case hp5 => kernel_rfl); (case hf5 => kernel_rfl); intro ops K hops hK; clear hops; dsimp only [List.take]; (repeat (first | (refine Sq.seqJ_load (t := 36) (fun j _ _ X hX => HX.out.below hX.1) (Sq.wanted_none rfl) rfl rfl pl_pc (v := .pointer (some ⟨gc, 0, none⟩)) rfl ?_; simp only [Act.put, Act.eval, Array.getD_eq_getD_getElem?, List.getElem?_toArray, List.getElem?_cons_zero, List.getElem?_cons_succ, Option.getD_some, List.setIfInBounds_toArray, List.set_cons_zero, List.set_cons_succ]) | (refine Sq.seqJ_turn (v := .map (some W.heap.size)) 59 rfl (Sq.wanted_none rfl) (fun X => ?_) (fun X hX => (kinds_calls X).mono fun e X' h => ?_) ?_; (focus (first | (go_simp; done) | (go_simp; rfl))); (focus (exact ⟨by rw [h.1, show X.heap.size = W.heap.size from hX.2], below_below hX.1 h.2.1, (show X.heap.size = W.heap.size from hX.2) ▸ h.2.2⟩)); simp only [Act.put, Act.eval, Array.getD_eq_getD_getElem?, List.getElem?_toArray, List.getElem?_cons_zero, List.getElem?_cons_succ, Option.getD_some, List.setIfInBounds_toArray, List.set_cons_zero, List.set_cons_succ]))); refine Sq.seqJ_nil ?_; refine hK.out _ fun w1 hk => ?_; clear hK; have BW := Lib.hid hk.1; have MW := Lib.hid (show w1.heap[W.heap.size]? = some (.map kindsE 20) from hk.2); clear hk; dsimp only [List.drop])
    | ((with_reducible refine Step.gate_store (t := 127) rfl ?_); refine Step.store (v := .map (some W.heap.size)) (HC.out.below BW.out) rfl rfl rfl rfl rfl pl_km rfl rfl ?_; intro w3 nb m; have NB := Lib.hid nb; have NM := Lib.hid m; clear nb m))
  all_goals (first | go_ret | go_end0 | refine bodyPost_ret (results_none rfl _ _ _) rfl ?_)
  have hlt := HC.out.lt
  exact ⟨rfl, NB.out, (Mod.of_below BW.out _).trans NM.out, (NM.out.block _ (Array.getElem?_eq_some_iff.1 MW.out).1 (fun e => by have e' : W.heap.size = gc := e; omega)).trans MW.out⟩
theorem fcall_not (x : Bool) (w : World) : (Op.unary .not (.bool x)).run Tryz.prog w = .ok (.bool (!x)) w := rfl
set_option maxHeartbeats 4000000 in
theorem doSlow {W : World} {b : Nat} {gc gm : Nat} {tv km : Value} {root vmid : Int} (hx : Blk W b #[.pointer (some ⟨gc, 0, none⟩)] 36) (hb : Blk W gc (ccg gm tv root vmid 0 0 km) TC) (hne : b ≠ gc) :
    Calls Tryz.prog 86 #[.pointer (some ⟨gc, 4, none⟩), .func (.func 58) #[] #[.pointer (some ⟨b, 0, none⟩)]] W fun e w' => e = .returned (.tuple #[]) ∧ ∃ r, W.heap.size ≤ r ∧ Blk w' gc (ccg gm tv root vmid 1 0 (.map (some r))) TC ∧ Mod (One gc) W w' ∧ w'.heap[r]? = some (.map kindsE 20) := by
  have hnot := fcall_not
  have HX := Lib.hid hx
  have HC := Lib.hid hb
  have HN := Lib.hid hne
  clear hx hb hne
  go_enter_defers Tryz.func86, Tryz.ntmps86
  go_wp2_with (first
    | (go_at_call 116; (with_reducible refine (lock HC.out).mono ?_); rintro e w' ⟨rfl, nb, m⟩; replace HC := Lib.hid nb; have M1 := Lib.hid m; replace HX := Lib.hid (HX.out.one m HN.out); clear nb m)
    | (go_at_call 85; (with_reducible refine (isDone HC.out false rfl).mono ?_); rintro e w' ⟨rfl, rfl⟩)
    | (go_at_call 58; (with_reducible refine (closure_calls HX.out HC.out).mono ?_); rintro e w' ⟨rfl, nb, m, hk⟩; have HC2 := Lib.hid nb; have M2 := Lib.hid m; have HK := Lib.hid hk; clear nb m hk))
  simp only [bodyPostD]
  refine leaves_cons (f := 118) (args := #[.pointer (some ⟨gc, 4, none⟩), .bool true]) (by simp) (by simp [go_sem]) ?_
  refine (setDone HC2.out .returning).mono ?_
  rintro e u' w'' ⟨rfl, rfl, nb3, m3⟩
  refine leaves_cons (f := 117) (args := #[.pointer (some ⟨gc, 5, none⟩)]) (by simp [settle]) (by simp [go_sem]) ?_
  refine (unlock nb3 _).mono ?_
  rintro e u' w4 ⟨rfl, rfl, nb4, m4⟩
  simp [Leaves, settle, results, Tryz.results86]
  have hk := HK.out
  have hlt := HC.out.lt
  have step : ∀ {x y : World} (r : Nat), gc < r → Mod (One gc) x y → x.heap[r]? = some (.map kindsE 20) → y.heap[r]? = some (.map kindsE 20) := fun r hr m h => (m.block r (Array.getElem?_eq_some_iff.1 h).1 (fun e => by have e' : r = gc := e; omega)).trans h
  exact ⟨_, M1.out.size, nb4, ((M1.out.trans M2.out).trans m3).trans m4, step _ hlt m4 (step _ hlt m3 hk)⟩
end Go.Proofs.YthkodjkkcgdmfaaGreat.Hart
end
section
namespace Go.Proofs.YthkodjkkcgdmfaaGreat.Hart
open Go Go.RowKit Go.Proofs.YthkodjkkcgdmfaaGreat.Step Go.Proofs.YthkodjkkcgdmfaaGreat.Enc Go.Proofs.YthkodjkkcgdmfaaGreat.Kn
open Go.Proofs.YthkodjkkcgdmfaaGreat.Mem (Ram Grow hasB wholeB num wr)
set_option linter.unusedVariables false
set_option linter.unusedSimpArgs false
set_option maxRecDepth 100000
set_option maxHeartbeats 4000000 in
theorem do_first {W : World} {b gc gm : Nat} {tv km : Value} {root vmid : Int} (hx : Blk W b #[.pointer (some ⟨gc, 0, none⟩)] 36) (hb : Blk W gc (ccg gm tv root vmid 0 0 km) TC) (hne : b ≠ gc) :
    Calls Tryz.prog 57 #[.pointer (some ⟨gc, 4, none⟩), .func (.func 58) #[] #[.pointer (some ⟨b, 0, none⟩)]] W fun e w' => e = .returned (.tuple #[]) ∧ ∃ r, W.heap.size ≤ r ∧ Blk w' gc (ccg gm tv root vmid 1 0 (.map (some r))) TC ∧ Mod (One gc) W w' ∧ w'.heap[r]? = some (.map kindsE 20) := by
  have hnot := fcall_not
  have T0 := Lib.hid (doSlow hx hb hne)
  have TD := Lib.hid (isDone hb false rfl)
  clear hx hb hne
  go_enter Tryz.func57, Tryz.ntmps57
  go_wp2_with (first
    | (go_at_call 85; (with_reducible refine (TD.out).mono ?_); rintro e w' ⟨rfl, rfl⟩)
    | (go_at_call 86; (with_reducible refine (T0.out).mono ?_); rintro e w' ⟨rfl, hq⟩; have HQ := Lib.hid hq; clear hq))
  all_goals (first | go_ret | go_end0 | refine bodyPost_ret (results_none rfl _ _ _) rfl ?_)
  exact ⟨rfl, HQ.out⟩
set_option maxHeartbeats 4000000 in
theorem do_more {W : World} {b gc gm : Nat} {tv km : Value} {root vmid : Int} (hb : Blk W gc (ccg gm tv root vmid 1 0 km) TC) :
    Calls Tryz.prog 57 #[.pointer (some ⟨gc, 4, none⟩), .func (.func 58) #[] #[.pointer (some ⟨b, 0, none⟩)]] W fun e w' => e = .returned (.tuple #[]) ∧ w' = W := by
  have hnot := fcall_not
  have TD := Lib.hid (isDone hb true rfl)
  clear hb
  go_enter Tryz.func57, Tryz.ntmps57
  go_wp2_with (go_at_call 85; (with_reducible refine (TD.out).mono ?_); rintro e w' ⟨rfl, rfl⟩)
  all_goals (first | go_ret | go_end0 | refine bodyPost_ret (results_none rfl _ _ _) rfl ?_)
  exact ⟨rfl, rfl⟩
/-- A step at its beginning. -/
def newS (gc : Nat) (now : Int) (h : Hrt) : Stp := { gc := gc, was := h, h := h, dry := false, now := now, k := 0, fn := 0, rd := 0, rs1 := 0, rs2 := 0, imm := 0, sz := 0, sg := false, long := 0, bits := 0, ek := 0, ea := 0, eva := 0, egpa := 0, ewalk := false, ewrote := false }
def zS : Stp := newS 0 0 zh
theorem zero_step : (Tryz.prog.info? 85).bind (·.zero) = some (.agg ((sc zS).setIfInBounds 0 (.pointer none))) := by kernel_rfl
theorem lays_was (s : Stp) (h' : Hrt) : lays (sc s) 3 (hc h').toList = sc { s with was := h' } := by
  refine Array.toList_inj.1 ((lays_list _ _ _ (Nat.le_of_ble_eq_true rfl)).trans rfl)
theorem fold_lays (off : Nat) : ∀ (vs : List Value) (k : Nat) (cs : Array Value), (vs.zipIdx k).foldl (fun cs (c, j) => cs.setIfInBounds (off + j) c) cs = lays cs (off + k) vs
  | [], _, _ => rfl
  | v :: r, k, cs => by
    rw [List.zipIdx_cons, List.foldl_cons]
    exact fold_lays off r (k + 1) _
theorem fill_at {place : Nat → Option (Nat × Nat)} {cells : Array Value} {i off size : Nat} {v : Value} {rest : List (Nat × Value)} (hp : place i = some (off, size)) (hs : v.cells.size = size) (hle : off + size ≤ cells.size) :
    Instr.fill place cells ((i, v) :: rest) = Instr.fill place (lays cells off v.cells.toList) rest := by
  subst hs
  have e : v.cells.zipIdx.foldl (fun cs (c, j) => cs.setIfInBounds (off + j) c) cells = lays cells off v.cells.toList := by
    rw [← Array.foldl_toList, Array.toList_zipIdx]
    exact fold_lays off _ 0 _
  simp only [Instr.fill, hp]
  rw [if_neg (by simp; omega), e]
def placesS : Array (Nat × Nat) := #[(0, 1), (1, 1), (2, 1), (3, 49), (52, 49), (101, 8), (109, 1), (110, 1), (111, 6)]
theorem fill_new (gc : Nat) (now : Int) (h : Hrt) : Instr.fill (placesS[·]?) ((sc zS).setIfInBounds 0 (.pointer none)) [(0, .pointer (some ⟨gc, 0, none⟩)), (2, .int .u64 now), (3, .agg (hc h)), (4, .agg (hc h))] = some (sc (newS gc now h)) := by
  rw [fill_at (off := 0) (size := 1) rfl rfl (Nat.le_of_ble_eq_true rfl)]
  rw [show lays ((sc zS).setIfInBounds 0 (.pointer none)) 0 (Value.pointer (some ⟨gc, 0, none⟩)).cells.toList = sc (newS gc 0 zh) from rfl]
  rw [fill_at (off := 2) (size := 1) rfl rfl (Nat.le_of_ble_eq_true rfl)]
  rw [show lays (sc (newS gc 0 zh)) 2 (Value.int .u64 now).cells.toList = sc (newS gc now zh) from rfl]
  rw [fill_at (off := 3) (size := 49) rfl rfl (Nat.le_of_ble_eq_true rfl)]
  rw [show (Value.agg (hc h)).cells = hc h from rfl, lays_was]
  rw [fill_at (off := 52) (size := 49) rfl rfl (Nat.le_of_ble_eq_true rfl)]
  rw [show (Value.agg (hc h)).cells = hc h from rfl, lays_h]
  rfl
theorem places_run (W : World) : ∃ fs, Tryz.prog.underlying 85 = some (.struct fs) ∧ (fs.mapM fun f => do pure (f.offset, ← sizeOf f.type) : Sem (Array (Nat × Nat))).run Tryz.prog W = .ok placesS W := by
  refine ⟨_, Tryz.underlying85, ?_⟩
  unfold placesS
  first | (go_simp; done) | (go_simp; rfl)
theorem run_build {P : Program} {t : TypeId} {fs : Array Field} {places : Array (Nat × Nat)} {z cells : Array Value} {parts : Array (Nat × Value)} {W : World} (hu : P.underlying t = some (.struct fs)) (hz : (P.info? t).bind (·.zero) = some (.agg z)) (hp : (fs.mapM fun f => do pure (f.offset, ← sizeOf f.type) : Sem (Array (Nat × Nat))).run P W = .ok places W)
    (hf : Instr.fill (places[·]?) z parts.toList = some cells) : (Instr.build t parts).run P W = .ok (.agg cells) W := by
  have hz' : (zeroValue t).run P W = .ok (.agg z) W := by
    cases hi : P.info? t with
    | none => rw [hi] at hz; cases hz
    | some i =>
      rw [hi] at hz
      have e : i.zero = some (.agg z) := hz
      simp [zeroValue, typeInfo, hi, e]
  unfold Instr.build
  simp only [Sem.run_bind, hz', Result.andThen_ok, run_underlying hu W, hp]
  rw [show (Value.agg z).cells = z from rfl, hf]
  rfl
theorem build_new {a : Act} {o : Oper} {x0 x2 x3 x4 : Operand} {gc : Nat} {now : Int} {h : Hrt} (ho : o.op = .build 85 #[(0, x0), (2, x2), (3, x3), (4, x4)]) (h0 : a.eval x0 = .pointer (some ⟨gc, 0, none⟩)) (h2 : a.eval x2 = .int .u64 now) (h3 : a.eval x3 = .agg (hc h)) (h4 : a.eval x4 = .agg (hc h)) (W : World) :
    (execOp a.eval o).run Tryz.prog W = .ok (.value (.agg (sc (newS gc now h)))) W := by
  obtain ⟨fs, hu, hp⟩ := places_run W
  have hb := run_build (P := Tryz.prog) (t := 85) (parts := #[(0, .pointer (some ⟨gc, 0, none⟩)), (2, .int .u64 now), (3, .agg (hc h)), (4, .agg (hc h))]) hu zero_step hp (fill_new gc now h)
  simp only [execOp, ho, List.map_toArray, List.map_cons, List.map_nil, h0, h2, h3, h4, Sem.run_bind, hb, Result.andThen_ok, Sem.run_pure]
theorem gate_buildS {P : Program} {ops : Array Oper} {rest : List Oper} {o : Oper} {a : Act} {W : World} {Q : Exit → Act → World → Prop} {t : TypeId} {x : Array (Nat × Operand)} (_ : o.op = .build t x) (h : wpList P ops Q (o :: rest) a W) : wpList P ops Q (o :: rest) a W := h
theorem heap_below {w w' : World} {r : Nat} {x : Obj} (h : w.heap[r]? = some x) (hb : Below w.heap.size w w') : w'.heap[r]? = some x := (hb.block r (Array.getElem?_eq_some_iff.1 h).1).trans h
theorem heap_mod {w w' : World} {r : Nat} {x : Obj} {S : Nat → Prop} (h : w.heap[r]? = some x) (m : Mod S w w') (hs : ¬ S r) : w'.heap[r]? = some x := (m.block r (Array.getElem?_eq_some_iff.1 h).1 hs).trans h
set_option maxHeartbeats 8000000 in
theorem begin_first {W : World} {gc gm : Nat} {tv km : Value} {root vmid : Int} (hb : Blk W gc (ccg gm tv root vmid 0 0 km) TC) (h : Hrt) (hf : Fit h) (now : Int) :
    Calls Tryz.prog 38 #[.pointer (some ⟨gc, 0, none⟩), .agg (hc h), .int .u64 now] W fun e w' => ∃ gs, e = .returned (.pointer (some ⟨gs, 0, none⟩)) ∧ W.heap.size ≤ gs ∧ Blk w' gs (sc (newS gc now (ord h))) TS ∧ ∃ r, W.heap.size ≤ r ∧ Blk w' gc (ccg gm tv root vmid 1 0 (.map (some r))) TC ∧ Mod (One gc) W w' ∧ w'.heap[r]? = some (.map kindsE 20) := by
  have TO := Lib.hid (order_any h hf)
  have HC := Lib.hid hb
  have HLT := Lib.hid hb.lt
  clear hb hf
  generalize ord h = h2 at *
  go_enter Tryz.func38, Tryz.ntmps38
  go_wp2_with (first
    | ((with_reducible refine Step.gate_box (t := 36) rfl ?_); refine Step.fresh (cs := #[.pointer (some ⟨gc, 0, none⟩)]) (T := 36) rfl ?hr ?_; (case hr => first | (go_simp; done) | (go_simp; rfl)); intro g3 w1 b hg hb; have HX := Lib.hid b; have HXG := Lib.hid hg; have HM := Lib.hid (Mod.of_below hb (One gc)); replace HC := Lib.hid (HC.out.below hb); clear b hb hg)
    | ((with_reducible refine Step.gate_box (t := 25) rfl ?_); refine Step.fresh (cs := hc h) (T := 25) rfl ?hr2 ?_; (case hr2 => first | (go_simp; done) | (go_simp; rfl)); intro g4 w1 b hg hb; have HH := Lib.hid b; have HG4 := Lib.hid (show W.heap.size ≤ g4 from Nat.le_trans HM.out.size hg); have HHG := Lib.hid (show g3 ≠ g4 from fun e => by have := HX.out.lt; omega); have HHC := Lib.hid (show g4 ≠ gc from fun e => by have := HC.out.lt; omega); replace HX := Lib.hid (HX.out.below hb); replace HM := Lib.hid (HM.out.trans (Mod.of_below hb _)); replace HC := Lib.hid (HC.out.below hb); clear b hb hg)
    | ((with_reducible refine Step.gate_load (t := 36) rfl ?_); refine Step.load (v := .pointer (some ⟨gc, 0, none⟩)) HX.out rfl rfl rfl pl_pc rfl ?_)
    | ((with_reducible refine Step.gate_load (t := 25) rfl ?_); refine Step.loadAll HH.out rfl rfl rfl Tryz.underlying25 rfl (size_hart _) ?_)
    | ((with_reducible refine Step.gate_store (t := 25) rfl ?_); refine Step.storeAll HH.out rfl rfl rfl rfl rfl (size_hart _) rfl (hc_all _) ?_; intro w3 nb m; replace HH := Lib.hid nb; replace HX := Lib.hid (HX.out.one m HHG.out); replace HC := Lib.hid (HC.out.one m HHC.out.symm); replace HM := Lib.hid (HM.out.trans_new m fun k hk e => by have e' : k = g4 := e; exact absurd hk (by have := HG4.out; omega)); replace HK := Lib.hid (heap_mod HK.out m HRG.out); clear nb m)
    | (go_at_call 30; (with_reducible refine (TO.out _).mono ?_); rintro e w' ⟨rfl, hb⟩; replace HX := Lib.hid (HX.out.below hb); replace HH := Lib.hid (HH.out.below hb); replace HM := Lib.hid (HM.out.trans (Mod.of_below hb _)); replace HC := Lib.hid (HC.out.below hb); replace HK := Lib.hid (heap_below HK.out hb); clear hb)
    | ((with_reducible refine gate_buildS (t := 85) rfl ?_); refine Step.value (v := .agg (sc (newS gc now h2))) rfl (build_new rfl rfl rfl rfl rfl _) ?_)
    | ((with_reducible refine Step.gate_box (t := 85) rfl ?_); refine Step.fresh (cs := sc (newS gc now h2)) (T := 85) rfl ?hr ?_; (case hr => first | (go_simp; done) | (go_simp; rfl)); intro g9 w1 b hg hb; have HG := Lib.hid (Nat.le_trans HM.out.size hg); replace HK := Lib.hid (heap_below HK.out hb); replace HM := Lib.hid (HM.out.trans (Mod.of_below hb _)); replace HC := Lib.hid (HC.out.below hb); have HS := Lib.hid b; clear b hb hg)
    | (go_at_call 57; (with_reducible refine (do_first HX.out HC.out (by have := HXG.out; have := HLT.out; omega)).mono ?_); rintro e w' ⟨rfl, r, hr, nb, m, hk⟩; have HR := Lib.hid (Nat.le_trans HM.out.size hr); have HK := Lib.hid hk; have HRG := Lib.hid (show ¬ One g4 r from fun e => by have e' : r = g4 := e; have := HH.out.lt; omega); replace HC := Lib.hid nb; replace HX := Lib.hid (HX.out.one m (by have := HXG.out; have := HLT.out; omega)); replace HH := Lib.hid (HH.out.one m HHC.out); replace HM := Lib.hid (HM.out.trans m); clear hr nb m hk))
  go_ret
  exact ⟨g9, rfl, HG.out, HS.out, r, HR.out, HC.out, HM.out, HK.out⟩
set_option maxHeartbeats 8000000 in
theorem begin_more {W : World} {gc gm : Nat} {tv km : Value} {root vmid : Int} (hb : Blk W gc (ccg gm tv root vmid 1 0 km) TC) (h : Hrt) (hf : Fit h) (now : Int) :
    Calls Tryz.prog 38 #[.pointer (some ⟨gc, 0, none⟩), .agg (hc h), .int .u64 now] W fun e w' => ∃ gs, e = .returned (.pointer (some ⟨gs, 0, none⟩)) ∧ W.heap.size ≤ gs ∧ Blk w' gs (sc (newS gc now (ord h))) TS ∧ Blk w' gc (ccg gm tv root vmid 1 0 km) TC ∧ Mod (One gc) W w' := by
  have TO := Lib.hid (order_any h hf)
  have HC := Lib.hid hb
  have HLT := Lib.hid hb.lt
  clear hb hf
  generalize ord h = h2 at *
  go_enter Tryz.func38, Tryz.ntmps38
  go_wp2_with (first
    | ((with_reducible refine Step.gate_box (t := 36) rfl ?_); refine Step.fresh (cs := #[.pointer (some ⟨gc, 0, none⟩)]) (T := 36) rfl ?hr ?_; (case hr => first | (go_simp; done) | (go_simp; rfl)); intro g3 w1 b hg hb; have HX := Lib.hid b; have HXG := Lib.hid hg; have HM := Lib.hid (Mod.of_below hb (One gc)); replace HC := Lib.hid (HC.out.below hb); clear b hb hg)
    | ((with_reducible refine Step.gate_box (t := 25) rfl ?_); refine Step.fresh (cs := hc h) (T := 25) rfl ?hr2 ?_; (case hr2 => first | (go_simp; done) | (go_simp; rfl)); intro g4 w1 b hg hb; have HH := Lib.hid b; have HG4 := Lib.hid (show W.heap.size ≤ g4 from Nat.le_trans HM.out.size hg); have HHG := Lib.hid (show g3 ≠ g4 from fun e => by have := HX.out.lt; omega); have HHC := Lib.hid (show g4 ≠ gc from fun e => by have := HC.out.lt; omega); replace HX := Lib.hid (HX.out.below hb); replace HM := Lib.hid (HM.out.trans (Mod.of_below hb _)); replace HC := Lib.hid (HC.out.below hb); clear b hb hg)
    | ((with_reducible refine Step.gate_load (t := 36) rfl ?_); refine Step.load (v := .pointer (some ⟨gc, 0, none⟩)) HX.out rfl rfl rfl pl_pc rfl ?_)
    | ((with_reducible refine Step.gate_load (t := 25) rfl ?_); refine Step.loadAll HH.out rfl rfl rfl Tryz.underlying25 rfl (size_hart _) ?_)
    | ((with_reducible refine Step.gate_store (t := 25) rfl ?_); refine Step.storeAll HH.out rfl rfl rfl rfl rfl (size_hart _) rfl (hc_all _) ?_; intro w3 nb m; replace HH := Lib.hid nb; replace HX := Lib.hid (HX.out.one m HHG.out); replace HC := Lib.hid (HC.out.one m HHC.out.symm); replace HM := Lib.hid (HM.out.trans_new m fun k hk e => by have e' : k = g4 := e; exact absurd hk (by have := HG4.out; omega)); clear nb m)
    | (go_at_call 30; (with_reducible refine (TO.out _).mono ?_); rintro e w' ⟨rfl, hb⟩; replace HX := Lib.hid (HX.out.below hb); replace HH := Lib.hid (HH.out.below hb); replace HM := Lib.hid (HM.out.trans (Mod.of_below hb _)); replace HC := Lib.hid (HC.out.below hb); clear hb)
    | ((with_reducible refine gate_buildS (t := 85) rfl ?_); refine Step.value (v := .agg (sc (newS gc now h2))) rfl (build_new rfl rfl rfl rfl rfl _) ?_)
    | ((with_reducible refine Step.gate_box (t := 85) rfl ?_); refine Step.fresh (cs := sc (newS gc now h2)) (T := 85) rfl ?hr ?_; (case hr => first | (go_simp; done) | (go_simp; rfl)); intro g9 w1 b hg hb; have HG := Lib.hid (Nat.le_trans HM.out.size hg); replace HM := Lib.hid (HM.out.trans (Mod.of_below hb _)); replace HC := Lib.hid (HC.out.below hb); have HS := Lib.hid b; clear b hb hg)
    | (go_at_call 57; (with_reducible refine (do_more HC.out).mono ?_); rintro e w' ⟨rfl, rfl⟩))
  go_ret
  exact ⟨g9, rfl, HG.out, HS.out, HC.out, HM.out⟩
/-- A core, before its first step or behind one; its memory. -/
structure Kor (W : World) (gc gm : Nat) (tv : Value) (vmid base : Int) (n : Nat) (mem : Nat → Int) (F : Nat → Prop) : Prop where
  core : (∃ km, Blk W gc (ccg gm tv 0 vmid 0 0 km) TC) ∨ ∃ r, Blk W gc (ccg gm tv 0 vmid 1 0 (.map (some r))) TC ∧ W.heap[r]? = some (.map kindsE 20) ∧ ¬ F r
  ram : Ram W gm base n mem F
  nF : ¬ F gc
theorem Kor.lt {W : World} {gc gm n : Nat} {tv : Value} {vmid base : Int} {mem : Nat → Int} {F : Nat → Prop} (h : Kor W gc gm tv vmid base n mem F) : gc < W.heap.size := by
  rcases h.core with ⟨km, b⟩ | ⟨r, b, _⟩ <;> exact b.lt
theorem Kor.mod {W w : World} {gc gm n : Nat} {tv : Value} {vmid base : Int} {mem : Nat → Int} {F S : Nat → Prop} (h : Kor W gc gm tv vmid base n mem F) (m : Mod S W w) (h1 : ¬ S gc) (h2 : ∀ k, F k → ¬ S k) (h3 : ∀ r, W.heap[r]? = some (.map kindsE 20) → ¬ S r) : Kor w gc gm tv vmid base n mem F :=
  ⟨h.core.imp (fun ⟨km, b⟩ => ⟨km, b.mod m h1⟩) fun ⟨r, b, hk, hr⟩ => ⟨r, b.mod m h1, heap_mod hk m (h3 r hk), hr⟩, h.ram.mod m h2, h.nF⟩
theorem Kor.below {W w : World} {gc gm n : Nat} {tv : Value} {vmid base : Int} {mem : Nat → Int} {F : Nat → Prop} (h : Kor W gc gm tv vmid base n mem F) (b : Below W.heap.size W w) : Kor w gc gm tv vmid base n mem F := h.mod (Mod.of_below b Nil) (fun h => h) (fun _ _ h => h) (fun _ _ h => h)
theorem cell_map {w : World} {g r : Nat} {cs : Array Value} {T : TypeId} {es : Array MapEntry} {c : Nat} (b : Blk w g cs T) (h : w.heap[r]? = some (.map es c)) : g ≠ r := fun e => by
  subst e
  rw [b.out] at h
  cases h
theorem kt_rest (r : Nat) : Rest (fun k => k = r) (KT r (fun _ => True)) := ⟨fun w w' S h m hs => ⟨heap_mod h.1 m (hs r rfl), trivial⟩⟩
theorem begin_any {W : World} {gc gm n : Nat} {tv : Value} {vmid base : Int} {mem : Nat → Int} {F : Nat → Prop} (hk : Kor W gc gm tv vmid base n mem F) (h : Hrt) (hf : Fit h) (now : Int) :
    Calls Tryz.prog 38 #[.pointer (some ⟨gc, 0, none⟩), .agg (hc h), .int .u64 now] W fun e w' => ∃ gs r, e = .returned (.pointer (some ⟨gs, 0, none⟩)) ∧ W.heap.size ≤ gs ∧ Mod (One gc) W w' ∧ ¬ F r ∧ Sy w' gs (newS gc now (ord h)) gm tv 0 vmid (.map (some r)) base n mem F (fun k => k = r) (KT r (fun _ => True)) := by
  have key : ∀ {w' : World} {gs r : Nat}, W.heap.size ≤ gs → Blk w' gs (sc (newS gc now (ord h))) TS → Blk w' gc (ccg gm tv 0 vmid 1 0 (.map (some r))) TC → Mod (One gc) W w' → w'.heap[r]? = some (.map kindsE 20) → ¬ F r → Sy w' gs (newS gc now (ord h)) gm tv 0 vmid (.map (some r)) base n mem F (fun k => k = r) (KT r (fun _ => True)) := by
    intro w' gs r hgs hs hcb m hm hr
    have hlt := hk.lt
    have hram := hk.ram.mod m fun k hkF e => hk.nF ((e : k = gc) ▸ hkF)
    have hbd := hk.ram.bound
    exact ⟨hs, ⟨hcb, hram, kt_rest r, ⟨hm, trivial⟩, hk.nF, cell_map hcb hm, fun k hkF e => hr ((e : k = r) ▸ hkF), fun k e => by have e' : k = r := e; rw [e']; exact (Array.getElem?_eq_some_iff.1 hm).1⟩,
      fun hF => by have := hbd gs hF; omega, cell_map hs hm, fun e => by have e' : gs = gc := e; omega⟩
  rcases hk.core with ⟨km, b⟩ | ⟨r, b, hm, hr⟩
  · refine (begin_first b h hf now).mono ?_
    rintro e w' ⟨gs, he, hgs, hs, r, hrl, hcb, m, hm⟩
    have hr : ¬ F r := fun hF => by have := hk.ram.bound r hF; omega
    exact ⟨gs, r, he, hgs, m, hr, key hgs hs hcb m hm hr⟩
  · refine (begin_more b h hf now).mono ?_
    rintro e w' ⟨gs, he, hgs, hs, hcb, m⟩
    exact ⟨gs, r, he, hgs, m, hr, key hgs hs hcb m (heap_mod hm m fun e => cell_map b hm (e : r = gc).symm) hr⟩
theorem results_rows {P : Program} {fn : Func} {p q : Tmp} {ty ty2 : TypeId} (h : fn.results = #[.cell p ty, .cell q ty2]) (tmps : Array Value) (w : World) (g g2 : Nat) (t t2 : TypeId) (cs cs2 : Array Value) (d d2 : TypeDesc)
    (hp : tmps.getD p undef = .pointer (some ⟨g, 0, none⟩)) (hq : tmps.getD q undef = .pointer (some ⟨g2, 0, none⟩)) (hg : Blk w g cs t) (hg2 : Blk w g2 cs2 t2) (hu : P.underlying ty = some d) (hu2 : P.underlying ty2 = some d2)
    (hd : (match d with | .struct _ | .array _ _ => true | _ => false) = true) (hd2 : (match d2 with | .struct _ | .array _ _ => true | _ => false) = true) (hi : (P.info? ty).map (·.size) = some cs.size) (hi2 : (P.info? ty2).map (·.size) = some cs2.size) :
    (results fn tmps).run P w = .ok (.tuple #[.agg cs, .agg cs2]) w := by
  have h1 := run_loadVar_row (P := P) w g t ty cs (0, 0) d hg.out hu hd hi
  have h2 := run_loadVar_row (P := P) w g2 t2 ty2 cs2 (0, 0) d2 hg2.out hu2 hd2 hi2
  have e : (results fn tmps).run P w = ((asAddr (tmps.getD p undef)).run P w).andThen fun a w₁ => ((loadVar ty a).run P w₁).andThen fun v w₂ => ((asAddr (tmps.getD q undef)).run P w₂).andThen fun a2 w₃ => ((loadVar ty2 a2).run P w₃).andThen fun v2 w₄ => .ok (.tuple #[v, v2]) w₄ := by
    simp only [results, h]
    simp [Sem.run_bind, Result.andThen]
  rw [e, hp, hq]
  simp only [asAddr, Sem.run_pure, Result.andThen_ok, h1, h2]
theorem lays_hc (h h' : Hrt) : lays (hc h) 0 (hc h').toList = hc h' := by
  refine Array.toList_inj.1 ((lays_list _ _ _ (Nat.le_of_ble_eq_true rfl)).trans rfl)
set_option maxHeartbeats 8000000 in
theorem step_any {W : World} {gc gm n : Nat} {tv : Value} {vmid base : Int} {mem mem2 : Nat → Int} {F : Nat → Prop} {s2 : Stp} (hk : Kor W gc gm tv vmid base n mem F) (h : Hrt) (hf : Fit h) (now : Int) (hg2 : s2.gc = gc)
    (HR : ∀ (W' : World) (gs r : Nat), Sy W' gs (newS gc now (ord h)) gm tv 0 vmid (.map (some r)) base n mem F (fun k => k = r) (KT r (fun _ => True)) → Calls Tryz.prog 39 #[.pointer (some ⟨gs, 0, none⟩)] W' fun e w' => e = .returned (.tuple #[]) ∧ Out W' w' gs s2 gm tv 0 vmid (.map (some r)) base n mem2 F (fun k => k = r) (KT r (fun _ => True))) :
    Calls Tryz.prog 23 #[.pointer (some ⟨gc, 0, none⟩), .agg (hc h), .int .u64 now] W fun e w' => e = .returned (.tuple #[.agg (hc s2.h), .agg (ecells s2)]) ∧ ∃ F', Kor w' gc gm tv vmid base n mem2 F' ∧ Mod (fun k => k = gc ∨ F k) W w' ∧ ∀ k, F' k → F k ∨ W.heap.size ≤ k := by
  have HK := Lib.hid hk
  have HF := Lib.hid hf
  replace HR := Lib.hid HR
  have HLT := Lib.hid hk.lt
  have HBD := Lib.hid hk.ram.bound
  clear hk hf
  go_enter Tryz.func23, Tryz.ntmps23
  go_wp2_with (first
    | ((with_reducible refine Step.gate_box (t := 25) rfl ?_); refine Step.fresh (cs := hc h) (T := 25) rfl ?hr ?_; (case hr => first | (go_simp; done) | (go_simp; rfl)); intro g4 w1 b hg hb; have B4 := Lib.hid b; have HB := Lib.hid hb; clear b hb hg)
    | ((with_reducible refine Step.gate_alloc (t := 25) rfl ?_); refine Step.freshAlloc rfl rfl (alloc_agg zero_hart) ?_; intro g6 w2 b hg hb; have B6 := Lib.hid b; have G6 := Lib.hid (Nat.le_trans HB.out.size hg); replace B4 := Lib.hid (B4.out.below hb); replace HB := Lib.hid (below_below HB.out hb); clear b hb hg)
    | ((with_reducible refine Step.gate_alloc (t := 46) rfl ?_); refine Step.freshAlloc rfl rfl (alloc_agg zero_ev) ?_; intro g7 w2 b hg hb; have B7 := Lib.hid b; have G67 := Lib.hid (show g6 ≠ g7 from fun e => by have := B6.out.lt; omega); have G7 := Lib.hid (Nat.le_trans HB.out.size hg); replace B4 := Lib.hid (B4.out.below hb); replace B6 := Lib.hid (B6.out.below hb); replace HB := Lib.hid (below_below HB.out hb); clear b hb hg)
    | ((with_reducible refine Step.gate_load (t := 25) rfl ?_); refine Step.loadAll B4.out rfl rfl rfl Tryz.underlying25 rfl (size_hart _) ?_)
    | (go_at_call 38; (with_reducible refine (begin_any (HK.out.below HB.out) h HF.out now).mono ?_); rintro e wb ⟨gs, r, rfl, hgs, m, hr, hy⟩; have L6 := Lib.hid (Nat.lt_of_lt_of_le B6.out.lt m.size); have L7 := Lib.hid (Nat.lt_of_lt_of_le B7.out.lt m.size); have HS6 := Lib.hid (show g6 ≠ gs from fun e => by have := B6.out.lt; omega); have HS7 := Lib.hid (show g7 ≠ gs from fun e => by have := B7.out.lt; omega); replace B6 := Lib.hid (B6.out.one m (by have := G6.out; have := HLT.out; omega)); replace B7 := Lib.hid (B7.out.one m (by have := G7.out; have := HLT.out; omega)); have HM := Lib.hid ((Mod.of_below HB.out (fun k => k = gc ∨ F k)).trans (m.mono fun k _ e => .inl e)); have HY := Lib.hid hy; have HRF := Lib.hid hr; have HSZ := Lib.hid (Nat.le_trans HB.out.size hgs); clear hgs m hr hy)
    | (go_at_call 39; (with_reducible refine (HR.out _ _ _ HY.out).mono ?_); rintro e wr ⟨rfl, ho⟩; have HO := Lib.hid ho; have HMr := Lib.hid (show Mod (fun k => k = gs ∨ F k) wb wr from ho.choose_spec.2.1); replace B6 := Lib.hid (B6.out.mod HMr.out (fun e => e.elim HS6.out fun hF => by have := HBD.out _ hF; have := G6.out; omega)); replace B7 := Lib.hid (B7.out.mod HMr.out (fun e => e.elim HS7.out fun hF => by have := HBD.out _ hF; have := G7.out; omega)); have BDR := Lib.hid (show Below wr.heap.size wr { wr with drawn := wr.drawn + 1 } from ⟨rfl, rfl, rfl, Nat.le_refl _, fun _ _ => rfl⟩); clear ho)
    | ((with_reducible refine Sq.regionJ (id := 3) (J := fun j X => Blk X gs (sc s2) TS ∧ Blk X g6 (hc (match j with | 0 => zh | _ => s2.h)) 25 ∧ Blk X g7 #[.int .i64 0, .int .i64 0, .int .u64 0, .int .u64 0, .bool false, .bool false] 46 ∧ Mod (One g6) wr X) ?hm6 9 [8] [.keep 0 0, .keep 0 0, .keep 0 0, .keep 0 0, .keep 0 1, .keep 0 1, .keep 0 1, .keep 0 1, .eff 0] ?hi6 ?hp6 ?hf6 ?hs6); (case hm6 => rfl); (case hi6 => exact ⟨HO.out.step.below BDR.out, B6.out.below BDR.out, B7.out.below BDR.out, Mod.of_below BDR.out _⟩); (case hp6 => kernel_rfl); (case hf6 => kernel_rfl); intro ops K hops hK; clear hops; dsimp only [List.take]; (repeat (first | (refine Sq.seqJ_move rfl rfl ?_; simp only [Act.put, Act.eval, Array.getD_eq_getD_getElem?, List.getElem?_toArray, List.getElem?_cons_zero, List.getElem?_cons_succ, Option.getD_some, List.setIfInBounds_toArray, List.set_cons_zero, List.set_cons_succ]) | (refine Sq.seqJ_check rfl rfl rfl ?_; simp only [Act.put, Act.eval, Array.getD_eq_getD_getElem?, List.getElem?_toArray, List.getElem?_cons_zero, List.getElem?_cons_succ, Option.getD_some, List.setIfInBounds_toArray, List.set_cons_zero, List.set_cons_succ]) | (refine Sq.seqJ_row (t := 25) (fun j _ _ X hX => hX.1) (Sq.wanted_none rfl) rfl rfl (fun j => row_h _) Tryz.underlying25 rfl (size_hart _) ?_; simp only [Act.put, Act.eval, Array.getD_eq_getD_getElem?, List.getElem?_toArray, List.getElem?_cons_zero, List.getElem?_cons_succ, Option.getD_some, List.setIfInBounds_toArray, List.set_cons_zero, List.set_cons_succ]) | (refine Sq.seqJ_row (t := 46) (fun j _ _ X hX => hX.1) (Sq.wanted_none rfl) rfl rfl (fun j => row_e _) Tryz.underlying46 rfl size_ev ?_; simp only [Act.put, Act.eval, Array.getD_eq_getD_getElem?, List.getElem?_toArray, List.getElem?_cons_zero, List.getElem?_cons_succ, Option.getD_some, List.setIfInBounds_toArray, List.set_cons_zero, List.set_cons_succ]) | (refine Sq.seqJ_storeRow (cs := hc zh) (vs := hc s2.h) (fun X hX => hX.2.1) rfl rfl rfl rfl rfl (size_hart _) rfl (hc_all _) (fun X X' hX nb m => ?_) ?_; · exact ⟨hX.1.one m HS6.out.symm, (lays_hc zh s2.h) ▸ nb, hX.2.2.1.one m G67.out.symm, hX.2.2.2.trans m⟩) | (refine' Sq.seqJ_pure rfl (fun X => _) _; rotate_left; (first | (go_simp; done) | (go_simp; rfl)); simp only [Act.put, Act.eval, Array.getD_eq_getD_getElem?, List.getElem?_toArray, List.getElem?_cons_zero, List.getElem?_cons_succ, Option.getD_some, List.setIfInBounds_toArray, List.set_cons_zero, List.set_cons_succ]))); refine Sq.seqJ_nil ?_; refine hK.out _ fun w1 hk => ?_; clear hK; have HJ := Lib.hid (show Blk w1 gs (sc s2) TS ∧ Blk w1 g6 (hc s2.h) _ ∧ Blk w1 g7 _ _ ∧ Mod (One g6) wr w1 from hk); clear hk; dsimp only [List.drop])
    | ((with_reducible refine Step.gate_store (t := 46) rfl ?_); refine Step.storeAll (vs := ecells s2) HJ.out.2.2.1 rfl rfl rfl rfl rfl size_ev rfl rfl ?_; intro w3 nb m; have H7 := Lib.hid nb; have H6 := Lib.hid (HJ.out.2.1.one m G67.out); have HM7 := Lib.hid m; clear nb m))
  refine bodyPost_ret (results_rows rfl _ _ g6 g7 _ _ _ _ _ _ rfl rfl H6.out H7.out Tryz.underlying25 Tryz.underlying46 rfl rfl (size_hart _) size_ev) rfl ⟨rfl, ?_⟩
  obtain ⟨F', y, m, c⟩ := HO.out
  have n6 : ∀ k, k < W.heap.size → ¬ One g6 k := fun k hk e => by have e' : k = g6 := e; have := G6.out; omega
  have n7 : ∀ k, k < W.heap.size → ¬ One g7 k := fun k hk e => by have e' : k = g7 := e; have := G7.out; omega
  have hF' : ∀ k, F' k → k ≠ g6 ∧ k ≠ g7 := by
    intro k hk
    have l6 := L6.out
    have l7 := L7.out
    have e6 := G6.out
    have e7 := G7.out
    rcases c k hk with hf | hf
    · have := HBD.out k hf
      exact ⟨by omega, by omega⟩
    · exact ⟨by omega, by omega⟩
  have m6 := HJ.out.2.2.2
  have m7 := HM7.out
  have lg := HLT.out
  have hm := HM.out
  have hsz := HSZ.out
  have r6 : g6 ≠ r := cell_map B6.out y.mc.tlb.1
  have r7 : g7 ≠ r := cell_map B7.out y.mc.tlb.1
  have ct := y.mc.tlb.1
  have cc := y.mc.core
  have cn := y.mc.nF
  have cr := y.mc.ram
  have cf := y.mc.fg r
  rw [hg2] at cc cn
  refine ⟨F', ⟨.inr ⟨r, (cc.mod m6 (n6 gc lg)).mod m7 (n7 gc lg), heap_mod (heap_mod ct m6 fun e => r6 (e : r = g6).symm) m7 fun e => r7 (e : r = g7).symm, fun hr => cf hr rfl⟩, (cr.mod m6 fun k hk e => (hF' k hk).1 e).mod m7 fun k hk e => (hF' k hk).2 e, cn⟩, ?_, fun k hk => (c k hk).imp id fun h => Nat.le_trans hm.size h⟩
  exact ((hm.trans_new m fun i hi e => e.elim (fun e => absurd hi (by omega)) .inr).trans_new m6 fun i hi e => absurd e (n6 i hi)).trans_new m7 fun i hi e => absurd e (n7 i hi)
end Go.Proofs.YthkodjkkcgdmfaaGreat.Hart
end
section
namespace Go.Proofs.YthkodjkkcgdmfaaGreat.Mem
open Go Go.RowKit Go.Proofs.YthkodjkkcgdmfaaGreat.Step
set_option linter.unusedVariables false
set_option linter.unusedSimpArgs false
set_option maxRecDepth 100000
/-- A memory that stands in blocks newer than the call's beginning. -/
structure Own (W w : World) (h : Nat) (base : Int) (n : Nat) (mem : Nat → Int) : Prop where
  ram : Ram w h base n mem (Grow Nil W w)
  mod : Mod Nil W w
theorem Own.below {W w w' : World} {h n : Nat} {base : Int} {mem : Nat → Int} (o : Own W w h base n mem) (b : Below w.heap.size w w') : Own W w' h base n mem :=
  ⟨(o.ram.below b).more (fun k hk => hk.elim .inl fun a => .inr ⟨a.1, Nat.lt_of_lt_of_le a.2 b.size⟩) (Grow.bound (fun k hk => hk.elim) (Nat.le_trans o.mod.size b.size)), o.mod.trans (Mod.of_below b Nil)⟩
theorem Own.drawn {W w w' : World} {h n : Nat} {base : Int} {mem : Nat → Int} (o : Own W w h base n mem) (b : ∃ k, w' = w.drewN k) : Own W w' h base n mem := o.below (below_drawn b)
theorem Own.step {W w w' : World} {h n : Nat} {base : Int} {mem mem' : Nat → Int} (o : Own W w h base n mem) (r : Ram w' h base n mem' (Grow (Grow Nil W w) w w')) (m : Mod (Grow Nil W w) w w') : Own W w' h base n mem' :=
  ⟨r.grow (fun k hk => hk.elim) o.mod.size m.size, mod_grow o.mod m⟩
theorem Own.made {W w w' : World} {h n : Nat} {base : Int} {mem : Nat → Int} (b : Mod Nil W w) (r : Ram w' h base n mem (Grow Nil w w')) (m : Mod Nil w w') : Own W w' h base n mem :=
  ⟨r.more (fun k hk => hk.elim .inl fun a => .inr ⟨Nat.le_trans b.size a.1, a.2⟩) (Grow.bound (fun k hk => hk.elim) (Nat.le_trans b.size m.size)), b.trans m⟩
theorem Own.out {W w : World} {h n : Nat} {base : Int} {mem : Nat → Int} (o : Own W w h base n mem) : Below W.heap.size W w := o.mod.below
theorem tmod_bd (v n : Int) (hn : 0 < n) : -n < v.tmod n ∧ v.tmod n < n := by
  have h1 := Int.tmod_lt_of_pos v hn
  have h2 := Int.tmod_lt_of_pos (-v) hn
  rw [Int.neg_tmod] at h2
  omega
theorem emod_tmod (v n : Int) (hn : 0 < n) : v % n = if v.tmod n < 0 then v.tmod n + n else v.tmod n := by
  have hb := tmod_bd v n hn
  have e := Int.mul_tdiv_add_tmod v n
  have e2 : v % n = v.tmod n % n := by
    conv => lhs; rw [← e]
    rw [Int.mul_add_emod_self_left]
  rw [e2]
  split
  · rw [← Int.add_emod_right, Int.emod_eq_of_lt (by omega) (by omega)]
  · rw [Int.emod_eq_of_lt (by omega) (by omega)]
set_option maxHeartbeats 400000 in
theorem place_any (v n : Int) (hn : 0 < n) (hv : -9223372036854775808 ≤ v ∧ v < 9223372036854775808) (hn2 : n < 9223372036854775808) (w : World) : Calls Tryz.prog 25 #[.int .i64 v, .int .i64 n] w fun e w' => e = .returned (.int .i64 (v % n)) ∧ w = w' := by
  have h0 : n ≠ 0 := by omega
  have hr := tmod_bd v n hn
  have hw : IntKind.i64.wrap (v.tmod n) = v.tmod n := IntWalk.i64_in _ (by omega)
  have he := emod_tmod v n hn
  by_cases hneg : v.tmod n < 0
  · rw [if_pos hneg] at he
    have E := Lib.hid he
    have hw2 : IntKind.i64.wrap (v.tmod n + n) = v.tmod n + n := IntWalk.i64_in _ (by omega)
    clear hr hv hn2 hn he
    go_enter Tryz.func25, Tryz.ntmps25
    go_wp2
    go_ret
    exact ⟨by rw [E.out]; rfl, rfl⟩
  · rw [if_neg hneg] at he
    have E := Lib.hid he
    have d : decide (v.tmod n < 0) = false := by simpa using hneg
    clear hr hv hn2 hn he hneg
    go_enter Tryz.func25, Tryz.ntmps25
    go_wp2
    go_ret
    exact ⟨by rw [E.out]; rfl, rfl⟩
end Go.Proofs.YthkodjkkcgdmfaaGreat.Mem
end
