/- Parts of the walks and laws for the claim: LawB, RowB; no conditions beyond the theorems' own. -/
import Derived.Test.YthkodjkkcgdmfaaGreatK14
import Derived.Test.YthkodjkkcgdmfaaGreatK15
import Derived.Test.YthkodjkkcgdmfaaGreatK17
section
namespace Go.Proofs.YthkodjkkcgdmfaaGreat.Hart
open Go Go.RowKit Go.Proofs.YthkodjkkcgdmfaaGreat.Step Go.Proofs.YthkodjkkcgdmfaaGreat.Enc Go.Proofs.YthkodjkkcgdmfaaGreat.Kn
set_option linter.unusedVariables false
set_option linter.unusedSimpArgs false
set_option maxRecDepth 100000
theorem msk_0 : msk 0 = 0 := by kernel_rfl
theorem ord_reset (pc a0 a1 : Int) : ord { zh with pc := pc, x := xup (xup zh.x 10 a0) 11 a1 } = resetH pc a0 a1 := by
  have e : xup (xup (xup zh.x 10 a0) 11 a1) 0 0 = xup (xup zh.x 10 a0) 11 a1 := by
    funext k
    unfold xup
    by_cases h : k = 0
    · subst h; rfl
    · rw [if_neg h]
  unfold ord resetH
  dsimp only
  rw [e]
  simp only [zh, msk_0]
  rfl
set_option maxHeartbeats 4000000 in
theorem rreset_any (pc a0 a1 : Int) (h0 : U64 pc) (h1 : U64 a0) (h2 : U64 a1) (w : World) : Calls Tryz.prog 21 #[.int .u64 pc, .int .u64 a0, .int .u64 a1] w fun e w' => e = .returned (.agg (hc (resetH pc a0 a1))) ∧ Below w.heap.size w w' := by
  have z : U64 0 := ⟨by decide, by decide⟩
  have T0 := Lib.hid (rOrder_any { zh with pc := pc, x := xup (xup zh.x 10 a0) 11 a1 } ⟨fun i hi => by
    show U64 (xup (xup zh.x 10 a0) 11 a1 i)
    unfold xup
    split
    · exact h2
    · split
      · exact h1
      · exact z, h0, z, z, z, z, z, z, z, z, z⟩)
  rw [ord_reset] at T0
  clear h0 h1 h2 z
  go_enter Tryz.func21, Tryz.ntmps21
  have ST := Lib.hid (Kn.nil (S := Step.Nil) (W := w))
  go_wp2_with (first
    | ((with_reducible refine Step.gate_alloc (t := 25) rfl ?_); refine Step.freshAlloc rfl rfl (alloc_agg zero_hart) ?_; intro g6 w2 b hg hb; replace ST := Lib.hid (ST.out.made b hg hb); clear b hb; clear hg)
    | ((with_reducible refine Step.gate_store (t := 22) rfl ?_); refine Step.store ST.out.at0 rfl rfl rfl rfl rfl pl_u64 rfl rfl ?_; intro w3 nb m; simp [go_sem, set_x0, set_pc, set_user, set_on, set_spie, set_spp, set_sum, set_mxr, set_rsv, set_stvec, set_sscr, set_sepc, set_scause, set_stval, set_sie, set_sip, set_satp, set_resv, set_x10, set_x11] at nb; replace ST := Lib.hid (ST.out.set0 nb m); clear nb m)
    | ((with_reducible refine Step.gate_load (t := 25) rfl ?_); refine Step.loadAll ST.out.at0 rfl rfl rfl Tryz.underlying25 rfl (size_hart _) ?_)
    | (go_at_call 31; (with_reducible refine (T0.out _).mono ?_); rintro e w' ⟨rfl, hb⟩; replace ST := Lib.hid (ST.out.call hb); clear hb)
    | ((with_reducible refine Step.gate_store (t := 25) rfl ?_); refine Step.storeAll ST.out.at1 rfl rfl rfl rfl rfl (size_hart _) rfl (hc_all _) ?_; intro w3 nb m; replace ST := Lib.hid (ST.out.set1 nb m); clear nb m))
  all_goals exact bodyPost_ret (results_row rfl _ _ _ _ _ _ rfl ST.out.at1 Tryz.underlying25 rfl (size_hart _)) rfl ⟨rfl, ST.out.below⟩
set_option maxHeartbeats 4000000 in
theorem resets_any (pc a0 a1 : Int) (h0 : U64 pc) (h1 : U64 a0) (h2 : U64 a1) (W : World) : Calls Tryz.prog 5 #[.int .u64 pc, .int .u64 a0, .int .u64 a1] W fun e w' => e = .returned (.bool true) ∧ Below W.heap.size W w' := by
  have T1 := Lib.hid (reset_any pc a0 a1 h0)
  have T2 := Lib.hid (rreset_any pc a0 a1 h0 h1 h2)
  clear h0 h1 h2
  generalize resetH pc a0 a1 = t at *
  go_enter Tryz.func5, Tryz.ntmps5
  have ST := Lib.hid (Kn.nil (S := Step.Nil) (W := W))
  go_wp2_with (first
    | (go_at_call 20; (with_reducible refine (T1.out _).mono ?_); rintro e w' ⟨rfl, hb⟩; replace ST := Lib.hid (ST.out.call hb); clear hb)
    | (go_at_call 21; (with_reducible refine (T2.out _).mono ?_); rintro e w' ⟨rfl, hb⟩; replace ST := Lib.hid (ST.out.call hb); clear hb)
    | (go_at_call 15; (with_reducible refine (awake_any _).mono ?_); rintro e w' ⟨rfl, hb⟩; replace ST := Lib.hid (ST.out.call hb); clear hb)
    | ((with_reducible refine gate_bin (t := 25) rfl ?_); refine Step.value (v := .bool true) rfl (eql_hart rfl rfl rfl _) ?_))
  all_goals go_ret
  all_goals exact ⟨rfl, ST.out.below⟩
set_option maxHeartbeats 4000000 in
theorem csrs_any (h : Hrt) (hf : Fit h) (c v n : Int) (hv : U64 v) (W : World) : Calls Tryz.prog 4 #[.agg (hc h), .int .i64 c, .int .u64 v, .int .u64 n] W fun e w' => e = .returned (.bool true) ∧ Below W.heap.size W w' := by
  have T1 := Lib.hid (read_any h hf c n)
  have T2 := Lib.hid (rread_any h hf c n)
  have T3 := Lib.hid (write_any h hf c v hv)
  have T4 := Lib.hid (rwrite_any h hf c v hv)
  clear hf hv
  generalize (rdV (ord h) c n).1 = r1 at *
  generalize (rdV (ord h) c n).2 = r2 at *
  generalize (wrH (ord h) c v).1 = x1 at *
  generalize (wrH (ord h) c v).2 = x2 at *
  go_enter Tryz.func4, Tryz.ntmps4
  have ST := Lib.hid (Kn.nil (S := Step.Nil) (W := W))
  go_wp2_with (first
    | ((with_reducible refine Step.gate_box (t := 25) rfl ?_); refine Step.fresh (cs := hc h) (T := 25) rfl ?hr ?_; (case hr => first | (go_simp; done) | (go_simp; rfl)); intro g3 w1 b hg hb; replace ST := Lib.hid (ST.out.made b hg hb); clear b hb; clear hg)
    | ((with_reducible refine Step.gate_alloc (t := 25) rfl ?_); refine Step.freshAlloc rfl rfl (alloc_agg zero_hart) ?_; intro g6 w2 b hg hb; replace ST := Lib.hid (ST.out.made b hg hb); clear b hb; clear hg)
    | ((with_reducible refine Step.gate_store (t := 25) rfl ?_); refine Step.storeAll ST.out.at0 rfl rfl rfl rfl rfl (size_hart _) rfl (hc_all _) ?_; intro w3 nb m; replace ST := Lib.hid (ST.out.set0 nb m); clear nb m)
    | ((with_reducible refine Step.gate_load (t := 25) rfl ?_); refine Step.loadAll ST.out.at0 rfl rfl rfl Tryz.underlying25 rfl (size_hart _) ?_)
    | ((with_reducible refine Step.gate_store (t := 25) rfl ?_); refine Step.storeAll ST.out.at1 rfl rfl rfl rfl rfl (size_hart _) rfl (hc_all _) ?_; intro w3 nb m; replace ST := Lib.hid (ST.out.set1 nb m); clear nb m)
    | ((with_reducible refine Step.gate_load (t := 25) rfl ?_); refine Step.loadAll ST.out.at1 rfl rfl rfl Tryz.underlying25 rfl (size_hart _) ?_)
    | ((with_reducible refine Step.gate_store (t := 25) rfl ?_); refine Step.storeAll ST.out.at2 rfl rfl rfl rfl rfl (size_hart _) rfl (hc_all _) ?_; intro w3 nb m; replace ST := Lib.hid (ST.out.set2 nb m); clear nb m)
    | ((with_reducible refine Step.gate_load (t := 25) rfl ?_); refine Step.loadAll ST.out.at2 rfl rfl rfl Tryz.underlying25 rfl (size_hart _) ?_)
    | (go_at_call 16; (with_reducible refine (T1.out _).mono ?_); rintro e w' ⟨rfl, hb⟩; replace ST := Lib.hid (ST.out.call hb); clear hb)
    | (go_at_call 17; (with_reducible refine (T2.out _).mono ?_); rintro e w' ⟨rfl, hb⟩; replace ST := Lib.hid (ST.out.call hb); clear hb)
    | (go_at_call 18; (with_reducible refine (T3.out _).mono ?_); rintro e w' ⟨rfl, hb⟩; replace ST := Lib.hid (ST.out.call hb); clear hb)
    | (go_at_call 19; (with_reducible refine (T4.out _).mono ?_); rintro e w' ⟨rfl, hb⟩; replace ST := Lib.hid (ST.out.call hb); clear hb)
    | (go_at_call 15; (with_reducible refine (awake_any _).mono ?_); rintro e w' ⟨rfl, hb⟩; replace ST := Lib.hid (ST.out.call hb); clear hb)
    | ((with_reducible refine gate_bin (t := 25) rfl ?_); refine Step.value (v := .bool true) rfl (eql_hart rfl rfl rfl _) ?_))
  all_goals go_ret
  all_goals exact ⟨rfl, ST.out.below⟩
end Go.Proofs.YthkodjkkcgdmfaaGreat.Hart
end
section
namespace Go.Proofs.YthkodjkkcgdmfaaGreat.Hart
open Go Go.RowKit Go.Proofs.YthkodjkkcgdmfaaGreat.Step
set_option linter.unusedVariables false
theorem resets_row (pc a0 a1 : Int) (W : World) (h0 : (Lit.int .u64 pc).wf = true) (h1 : (Lit.int .u64 a0).wf = true) (h2 : (Lit.int .u64 a1).wf = true) : Calls Tryz.prog 5 #[.int .u64 pc, .int .u64 a0, .int .u64 a1] W fun e w' => e = .returned (.bool true) ∧ Below W.heap.size W w' :=
  resets_any pc a0 a1 (bd_u64 h0) (bd_u64 h1) (bd_u64 h2) W
theorem csrs_row (h : Hrt) (c v n : Int) (W : World) (hf : Fit h) (hc' : (Lit.int .i64 c).wf = true) (hv : (Lit.int .u64 v).wf = true) (hn : (Lit.int .u64 n).wf = true) : Calls Tryz.prog 4 #[.agg (Hart.hc h), .int .i64 c, .int .u64 v, .int .u64 n] W fun e w' => e = .returned (.bool true) ∧ Below W.heap.size W w' :=
  csrs_any h hf c v n (bd_u64 hv) W
end Go.Proofs.YthkodjkkcgdmfaaGreat.Hart
end
