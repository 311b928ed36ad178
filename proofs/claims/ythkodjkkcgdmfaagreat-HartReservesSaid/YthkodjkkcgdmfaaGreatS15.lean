/- Parts of the walks and laws for the claim: LawD; no conditions beyond the theorems' own. -/
import Derived.Test.YthkodjkkcgdmfaaGreatS14
section
namespace Go.Proofs.YthkodjkkcgdmfaaGreat.Hart
open Go Go.RowKit Go.Proofs.YthkodjkkcgdmfaaGreat.Step Go.Proofs.YthkodjkkcgdmfaaGreat.Enc Go.Proofs.YthkodjkkcgdmfaaGreat.Kn
open Go.Proofs.YthkodjkkcgdmfaaGreat.Mem (Ram Grow hasB newB wholeB num wr Rd fl Arg lst)
open Go.Proofs.YthkodjkkcgdmfaaGreat.Duo (Duo RdC cm size_two)
set_option linter.unusedVariables false
set_option linter.unusedSimpArgs false
set_option maxRecDepth 100000
theorem ml2_w : wordP ⟨6, 0, 7, 5, 0, 0, 2, true⟩ = 168835 := by kernel_rfl
theorem ml2_d : dec 168835 = some ⟨6, 0, 7, 5, 0, 0, 2, true⟩ := by kernel_rfl
theorem one_ml2 (W : World) : Calls Tryz.prog 22 #[.agg #[.int .i64 6, .int .i64 0, .int .i64 7, .int .i64 5, .int .i64 0, .int .i64 0, .int .i64 2, .bool true], .slice none 0 0] W fun e w' => ∃ gc gt h1 h2 F1 F2, e = .returned (.tuple #[.pointer (some ⟨gc, 0, none⟩), .agg #[.pointer (some ⟨h1, 0, none⟩), .pointer (some ⟨h2, 0, none⟩)], .bool true]) ∧ DK W w' h1 h2 2147483648 1 (wr (cm 1 (fun _ => (0, 0)) 0) 0 4 168835) (wr (cm 1 (fun _ => (0, 0)) 0) 0 4 168835) F1 F2 ((gc, ccg h1 (.pointer (some ⟨gt, 0, none⟩)) 0 0 0 0 (.map none), TC) :: []) := by
  have h := one_any W ⟨6, 0, 7, 5, 0, 0, 2, true⟩ (by unfold InR; decide) (by rw [ml2_w]; exact ⟨by decide, by decide⟩) (by rw [ml2_w]; exact ml2_d) (Lib.hid (by rw [ml2_w]; exact rDec_3 168835 ⟨by decide, by decide⟩ (by kernel_rfl))) none 0 0 (fun _ => (0, 0)) (no_cells _ _) (by decide)
  rw [ml2_w] at h
  refine h.mono fun e w' q => ?_
  obtain ⟨gc, gt, h1, h2, F1, F2, rfl, d⟩ := q
  exact ⟨gc, gt, h1, h2, F1, F2, rfl, d.solo⟩
theorem ms2_w : wordP ⟨7, 0, 0, 5, 6, 0, 2, false⟩ = 6459427 := by kernel_rfl
theorem ms2_d : dec 6459427 = some ⟨7, 0, 0, 5, 6, 0, 2, false⟩ := by kernel_rfl
theorem one_ms2 (W : World) : Calls Tryz.prog 22 #[.agg #[.int .i64 7, .int .i64 0, .int .i64 0, .int .i64 5, .int .i64 6, .int .i64 0, .int .i64 2, .bool false], .slice none 0 0] W fun e w' => ∃ gc gt h1 h2 F1 F2, e = .returned (.tuple #[.pointer (some ⟨gc, 0, none⟩), .agg #[.pointer (some ⟨h1, 0, none⟩), .pointer (some ⟨h2, 0, none⟩)], .bool true]) ∧ DK W w' h1 h2 2147483648 1 (wr (cm 1 (fun _ => (0, 0)) 0) 0 4 6459427) (wr (cm 1 (fun _ => (0, 0)) 0) 0 4 6459427) F1 F2 ((gc, ccg h1 (.pointer (some ⟨gt, 0, none⟩)) 0 0 0 0 (.map none), TC) :: []) := by
  have h := one_any W ⟨7, 0, 0, 5, 6, 0, 2, false⟩ (by unfold InR; decide) (by rw [ms2_w]; exact ⟨by decide, by decide⟩) (by rw [ms2_w]; exact ms2_d) (Lib.hid (by rw [ms2_w]; exact rDec_35 6459427 ⟨by decide, by decide⟩ (by kernel_rfl))) none 0 0 (fun _ => (0, 0)) (no_cells _ _) (by decide)
  rw [ms2_w] at h
  refine h.mono fun e w' q => ?_
  obtain ⟨gc, gt, h1, h2, F1, F2, rfl, d⟩ := q
  exact ⟨gc, gt, h1, h2, F1, F2, rfl, d.solo⟩
theorem ml4_w : wordP ⟨6, 0, 7, 5, 0, 0, 4, true⟩ = 172931 := by kernel_rfl
theorem ml4_d : dec 172931 = some ⟨6, 0, 7, 5, 0, 0, 4, true⟩ := by kernel_rfl
theorem one_ml4 (W : World) : Calls Tryz.prog 22 #[.agg #[.int .i64 6, .int .i64 0, .int .i64 7, .int .i64 5, .int .i64 0, .int .i64 0, .int .i64 4, .bool true], .slice none 0 0] W fun e w' => ∃ gc gt h1 h2 F1 F2, e = .returned (.tuple #[.pointer (some ⟨gc, 0, none⟩), .agg #[.pointer (some ⟨h1, 0, none⟩), .pointer (some ⟨h2, 0, none⟩)], .bool true]) ∧ DK W w' h1 h2 2147483648 1 (wr (cm 1 (fun _ => (0, 0)) 0) 0 4 172931) (wr (cm 1 (fun _ => (0, 0)) 0) 0 4 172931) F1 F2 ((gc, ccg h1 (.pointer (some ⟨gt, 0, none⟩)) 0 0 0 0 (.map none), TC) :: []) := by
  have h := one_any W ⟨6, 0, 7, 5, 0, 0, 4, true⟩ (by unfold InR; decide) (by rw [ml4_w]; exact ⟨by decide, by decide⟩) (by rw [ml4_w]; exact ml4_d) (Lib.hid (by rw [ml4_w]; exact rDec_3 172931 ⟨by decide, by decide⟩ (by kernel_rfl))) none 0 0 (fun _ => (0, 0)) (no_cells _ _) (by decide)
  rw [ml4_w] at h
  refine h.mono fun e w' q => ?_
  obtain ⟨gc, gt, h1, h2, F1, F2, rfl, d⟩ := q
  exact ⟨gc, gt, h1, h2, F1, F2, rfl, d.solo⟩
theorem ms4_w : wordP ⟨7, 0, 0, 5, 6, 0, 4, false⟩ = 6463523 := by kernel_rfl
theorem ms4_d : dec 6463523 = some ⟨7, 0, 0, 5, 6, 0, 4, false⟩ := by kernel_rfl
theorem one_ms4 (W : World) : Calls Tryz.prog 22 #[.agg #[.int .i64 7, .int .i64 0, .int .i64 0, .int .i64 5, .int .i64 6, .int .i64 0, .int .i64 4, .bool false], .slice none 0 0] W fun e w' => ∃ gc gt h1 h2 F1 F2, e = .returned (.tuple #[.pointer (some ⟨gc, 0, none⟩), .agg #[.pointer (some ⟨h1, 0, none⟩), .pointer (some ⟨h2, 0, none⟩)], .bool true]) ∧ DK W w' h1 h2 2147483648 1 (wr (cm 1 (fun _ => (0, 0)) 0) 0 4 6463523) (wr (cm 1 (fun _ => (0, 0)) 0) 0 4 6463523) F1 F2 ((gc, ccg h1 (.pointer (some ⟨gt, 0, none⟩)) 0 0 0 0 (.map none), TC) :: []) := by
  have h := one_any W ⟨7, 0, 0, 5, 6, 0, 4, false⟩ (by unfold InR; decide) (by rw [ms4_w]; exact ⟨by decide, by decide⟩) (by rw [ms4_w]; exact ms4_d) (Lib.hid (by rw [ms4_w]; exact rDec_35 6463523 ⟨by decide, by decide⟩ (by kernel_rfl))) none 0 0 (fun _ => (0, 0)) (no_cells _ _) (by decide)
  rw [ms4_w] at h
  refine h.mono fun e w' q => ?_
  obtain ⟨gc, gt, h1, h2, F1, F2, rfl, d⟩ := q
  exact ⟨gc, gt, h1, h2, F1, F2, rfl, d.solo⟩
theorem ml8_w : wordP ⟨6, 0, 7, 5, 0, 0, 8, true⟩ = 177027 := by kernel_rfl
theorem ml8_d : dec 177027 = some ⟨6, 0, 7, 5, 0, 0, 8, true⟩ := by kernel_rfl
theorem one_ml8 (W : World) : Calls Tryz.prog 22 #[.agg #[.int .i64 6, .int .i64 0, .int .i64 7, .int .i64 5, .int .i64 0, .int .i64 0, .int .i64 8, .bool true], .slice none 0 0] W fun e w' => ∃ gc gt h1 h2 F1 F2, e = .returned (.tuple #[.pointer (some ⟨gc, 0, none⟩), .agg #[.pointer (some ⟨h1, 0, none⟩), .pointer (some ⟨h2, 0, none⟩)], .bool true]) ∧ DK W w' h1 h2 2147483648 1 (wr (cm 1 (fun _ => (0, 0)) 0) 0 4 177027) (wr (cm 1 (fun _ => (0, 0)) 0) 0 4 177027) F1 F2 ((gc, ccg h1 (.pointer (some ⟨gt, 0, none⟩)) 0 0 0 0 (.map none), TC) :: []) := by
  have h := one_any W ⟨6, 0, 7, 5, 0, 0, 8, true⟩ (by unfold InR; decide) (by rw [ml8_w]; exact ⟨by decide, by decide⟩) (by rw [ml8_w]; exact ml8_d) (Lib.hid (by rw [ml8_w]; exact rDec_3 177027 ⟨by decide, by decide⟩ (by kernel_rfl))) none 0 0 (fun _ => (0, 0)) (no_cells _ _) (by decide)
  rw [ml8_w] at h
  refine h.mono fun e w' q => ?_
  obtain ⟨gc, gt, h1, h2, F1, F2, rfl, d⟩ := q
  exact ⟨gc, gt, h1, h2, F1, F2, rfl, d.solo⟩
theorem ms8_w : wordP ⟨7, 0, 0, 5, 6, 0, 8, false⟩ = 6467619 := by kernel_rfl
theorem ms8_d : dec 6467619 = some ⟨7, 0, 0, 5, 6, 0, 8, false⟩ := by kernel_rfl
theorem one_ms8 (W : World) : Calls Tryz.prog 22 #[.agg #[.int .i64 7, .int .i64 0, .int .i64 0, .int .i64 5, .int .i64 6, .int .i64 0, .int .i64 8, .bool false], .slice none 0 0] W fun e w' => ∃ gc gt h1 h2 F1 F2, e = .returned (.tuple #[.pointer (some ⟨gc, 0, none⟩), .agg #[.pointer (some ⟨h1, 0, none⟩), .pointer (some ⟨h2, 0, none⟩)], .bool true]) ∧ DK W w' h1 h2 2147483648 1 (wr (cm 1 (fun _ => (0, 0)) 0) 0 4 6467619) (wr (cm 1 (fun _ => (0, 0)) 0) 0 4 6467619) F1 F2 ((gc, ccg h1 (.pointer (some ⟨gt, 0, none⟩)) 0 0 0 0 (.map none), TC) :: []) := by
  have h := one_any W ⟨7, 0, 0, 5, 6, 0, 8, false⟩ (by unfold InR; decide) (by rw [ms8_w]; exact ⟨by decide, by decide⟩) (by rw [ms8_w]; exact ms8_d) (Lib.hid (by rw [ms8_w]; exact rDec_35 6467619 ⟨by decide, by decide⟩ (by kernel_rfl))) none 0 0 (fun _ => (0, 0)) (no_cells _ _) (by decide)
  rw [ms8_w] at h
  refine h.mono fun e w' q => ?_
  obtain ⟨gc, gt, h1, h2, F1, F2, rfl, d⟩ := q
  exact ⟨gc, gt, h1, h2, F1, F2, rfl, d.solo⟩
/-- A hart that has trapped at its load or store. -/
def misH (C : Hrt) (c va : Int) : Hrt := { trg (ord (ord C)) c va with x := xup (trg (ord (ord C)) c va).x 0 0 }
theorem mis_l {W : World} {gc gm : Nat} {tv : Value} {m0 : Nat → Int} {F : Nat → Prop} {u n : Int} (hk : Kor W gc gm tv 0 2147483648 1 (wr m0 0 4 u) F) (C : Hrt) (hf : Fit C) (hpc : C.pc = 2147483648) (hsie : C.sie = 0) (hsat : C.satp = 0) (hu : W32 u) (hd : dec u = some ⟨6, 0, 7, 5, 0, 0, n, true⟩) (hop : fd u 6 0 = 3) (k : Nat) (hn : n = k) (hk8 : wholeB k = true) (va : Int) (h5 : C.x 5 = va) (hva : U64 va) (hal : ¬ va % n = 0) :
    Calls Tryz.prog 23 #[.pointer (some ⟨gc, 0, none⟩), .agg (hc C), .int .u64 0] W fun e w' => e = .returned (.tuple #[.agg (hc (misH C 4 va)), .agg #[.int .i64 1, .int .i64 0, .int .u64 0, .int .u64 0, .bool false, .bool false]]) ∧ ∃ F', Kor w' gc gm tv 0 2147483648 1 (wr m0 0 4 u) F' ∧ Mod (fun k => k = gc ∨ F k) W w' ∧ ∀ k, F' k → F k ∨ W.heap.size ≤ k := by
  refine step_loads (s2 := trapP (decP (newS gc 0 (ord C)) u ⟨6, 0, 7, 5, 0, 0, n, true⟩) 4 va) hk C hf 0 hpc hsie hsat hu hd (Lib.hid (Dec_3 u hu hop)) rfl fun W' gs r F' y => ?_
  refine (loads_mis y (ord_fit hf) (n1 := 5) rfl (by decide) (k := k) hn hk8 va ?_ hva hal).mono ?_
  · show va = addW (xup C.x 0 0 5) (IntKind.u64.wrap 0)
    rw [xup_ne _ _ (by decide), h5, addW_zero hva]
  · rintro e w' ⟨rfl, nb, m⟩
    exact ⟨rfl, y.out.set nb m rfl⟩
theorem mis_s {W : World} {gc gm : Nat} {tv : Value} {m0 : Nat → Int} {F : Nat → Prop} {u n : Int} (hk : Kor W gc gm tv 0 2147483648 1 (wr m0 0 4 u) F) (C : Hrt) (hf : Fit C) (hpc : C.pc = 2147483648) (hsie : C.sie = 0) (hsat : C.satp = 0) (hu : W32 u) (hd : dec u = some ⟨7, 0, 0, 5, 6, 0, n, false⟩) (hop : fd u 6 0 = 35) (k : Nat) (hn : n = k) (hk8 : wholeB k = true) (va : Int) (h5 : C.x 5 = va) (hva : U64 va) (hal : ¬ va % n = 0) :
    Calls Tryz.prog 23 #[.pointer (some ⟨gc, 0, none⟩), .agg (hc C), .int .u64 0] W fun e w' => e = .returned (.tuple #[.agg (hc (misH C 6 va)), .agg #[.int .i64 1, .int .i64 0, .int .u64 0, .int .u64 0, .bool false, .bool false]]) ∧ ∃ F', Kor w' gc gm tv 0 2147483648 1 (wr m0 0 4 u) F' ∧ Mod (fun k => k = gc ∨ F k) W w' ∧ ∀ k, F' k → F k ∨ W.heap.size ≤ k := by
  refine step_stores (s2 := trapP (decP (newS gc 0 (ord C)) u ⟨7, 0, 0, 5, 6, 0, n, false⟩) 6 va) hk C hf 0 hpc hsie hsat hu hd (Lib.hid (Dec_35 u hu hop)) rfl fun W' gs r F' y => ?_
  refine (stores_mis y (ord_fit hf) (n1 := 5) rfl (by decide) (k := k) hn hk8 va ?_ hva hal).mono ?_
  · show va = addW (xup C.x 0 0 5) (IntKind.u64.wrap 0)
    rw [xup_ne _ _ (by decide), h5, addW_zero hva]
  · rintro e w' ⟨rfl, nb, m⟩
    exact ⟨rfl, y.out.set nb m rfl⟩
theorem mis_x {C : Hrt} (h0 : C.x 0 = 0) (c va : Int) : (misH C c va).x = C.x := by
  show xup (xup (xup C.x 0 0) 0 0) 0 0 = C.x
  rw [xup_zero h0, xup_zero h0, xup_zero h0]
theorem mis_pc {C : Hrt} (h0 : C.pc = 2147483648) (c va : Int) : (misH C c va).sepc = 2147483648 := by
  show C.pc / 2 * 2 / 2 * 2 = 2147483648
  rw [h0]; decide
set_option maxHeartbeats 8000000 in
theorem mis_law_ml2 (h : Hrt) (hf : Fit h) (size addr va : Int) (TP : Hid (∀ w, Calls Tryz.prog 25 #[.int .i64 size, .int .i64 3] w fun e w' => e = .returned (.int .i64 0) ∧ w = w')) (ha : U64 addr) (hva : U64 va) (hz : (addr % 2 = 0 ∧ va = addr + 1) ∨ (¬ addr % 2 = 0 ∧ va = addr)) (W : World) : Calls Tryz.prog 10 #[.agg (hc h), .int .i64 size, .int .u64 addr, .bool false] W fun e w' => e = .returned (.bool true) ∧ Below W.heap.size W w' := by
  have TC0 := Lib.hid (calm_any h hf)
  have hal : ¬ va % 2 = 0 := by omega
  have hh := ha.out
  have F := calm5_fit hf hva
  have c0 : (calmH h).x 0 = 0 := (show xup h.x 0 0 0 = 0 from xup_at _ _ _)
  have cpc : (calmH h).pc = 2147483648 := rfl
  have TS := Lib.hid (fun (X : World) (gc gm : Nat) (tv : Value) (m0 : Nat → Int) (F0 : Nat → Prop) (hk : Kor X gc gm tv 0 2147483648 1 (wr m0 0 4 168835) F0) => mis_l (u := 168835) (n := 2) hk _ F rfl rfl rfl ⟨by decide, by decide⟩ ml2_d (by kernel_rfl) 2 rfl (by decide) va (show xup (calmH h).x 5 va 5 = va from xup_at _ _ _) hva hal)
  clear F
  generalize calmH h = C at *
  obtain ⟨H2, eH⟩ : ∃ H, H = misH { C with x := xup C.x 5 va } 4 va := ⟨_, rfl⟩
  have hx : H2.x = xup C.x 5 va := by rw [eH]; exact mis_x (C := { C with x := xup C.x 5 va }) ((xup_ne (i := 5) (j := 0) C.x va (by decide)).trans c0) _ _
  have r43 : (hc H2)[43]? = some (.int .u64 4) := by rw [eH]; rfl
  have r44 : (hc H2)[44]? = some (.int .u64 va) := by rw [eH]; rfl
  have r42 : (hc H2)[42]? = some (.int .u64 2147483648) := by
    show some (Value.int .u64 H2.sepc) = _
    rw [eH, mis_pc (C := { C with x := xup C.x 5 va }) cpc]
  have rx1 : Row (hc H2) 0 (xa (xup C.x 5 va)) := by rw [← hx]; exact row_x H2
  have rx2 : Row (hc { C with x := xup C.x 5 va }) 0 (xa (xup C.x 5 va)) := row_x _
  rw [← eH] at TS
  obtain ⟨a0, a1⟩ := hh
  clear eH hx c0 cpc hf hva ha hal
  rcases hz with ⟨hz, rfl⟩ | ⟨hz, rfl⟩
  all_goals first
    | have hzb : (addr % 2 == 0) = true := beq_iff_eq.2 hz
    | have hzb : (addr % 2 == 0) = false := beq_eq_false_iff_ne.2 hz
    | have hzb : (va % 2 == 0) = false := beq_eq_false_iff_ne.2 hz
  all_goals (try have hwr : IntKind.u64.wrap (addr + 1) = addr + 1 := IntWalk.u64_in _ (by omega))
  all_goals clear hz
  all_goals (
    go_enter Tryz.func10, Tryz.ntmps10
    have ST := Lib.hid (Kn.nil (S := Step.Nil) (W := W))
    go_wp2_with (first
      | ((with_reducible refine Step.gate_box (t := 25) rfl ?_); refine Step.fresh (cs := hc h) (T := 25) rfl ?hr ?_; (case hr => first | (go_simp; done) | (go_simp; rfl)); intro g4 w1 b hg hb; replace ST := Lib.hid (ST.out.made b hg hb); clear b hb; clear hg)
      | ((with_reducible refine Step.gate_load (t := 25) rfl ?_); refine Step.loadAll ST.out.at0 rfl rfl rfl Tryz.underlying25 rfl (size_hart _) ?_)
      | (go_at_call 24; (with_reducible refine (TC0.out _).mono ?_); rintro e w' ⟨rfl, hb⟩; replace ST := Lib.hid (ST.out.call hb); clear hb)
      | ((with_reducible refine Step.gate_store (t := 25) rfl ?_); refine Step.storeAll ST.out.at0 rfl rfl rfl rfl rfl (size_hart _) rfl (hc_all _) ?_; intro w3 nb m; replace ST := Lib.hid (ST.out.set0 nb m); clear nb m)
      | ((with_reducible refine Step.gate_build (t := 53) rfl ?_); refine Step.freshSlice (cs := #[.int .i64 2, .int .i64 4, .int .i64 8]) (T := 3) (n := 3) (m := 3) rfl ?hr ?_; (case hr => first | (go_simp; done) | (go_simp; rfl)); intro gs w1 b hg hb; replace ST := Lib.hid (ST.out.made b hg hb); clear b hg hb)
      | (go_at_call 25; (with_reducible refine (TP.out _).mono ?_); rintro e w' ⟨rfl, rfl⟩)
      | ((with_reducible refine Step.gate_load (t := 3) rfl ?_); refine Step.load ST.out.at0 rfl rfl rfl pl_int rfl ?_)
      | ((with_reducible refine Step.gate_store (t := 22) rfl ?_); refine Step.store ST.out.at1 rfl rfl rfl rfl rfl pl_u64 rfl rfl ?_; intro w3 nb m; simp [go_sem, set_x5] at nb; replace ST := Lib.hid (ST.out.set1 nb m); clear nb m)
      | ((with_reducible refine Step.gate_alloc (t := 44) rfl ?_); refine Step.freshAlloc rfl rfl (alloc_agg zero_inst) ?_; intro g10 w2 b hg hb; replace ST := Lib.hid (ST.out.made b hg hb); clear b hb hg)
      | ((with_reducible refine Step.gate_store (t := 44) rfl ?_); refine Step.storeAll ST.out.at0 rfl rfl rfl rfl rfl size_inst rfl rfl ?_; intro w3 nb m; replace ST := Lib.hid (ST.out.set0 nb m); clear nb m)
      | ((with_reducible refine Step.gate_load (t := 44) rfl ?_); refine Step.loadAll ST.out.at0 rfl rfl rfl Tryz.underlying44 rfl size_inst ?_)
      | (go_at_call 22; (with_reducible refine (one_ml2 _).mono ?_); rintro e w9 ⟨gc, gt, h1, h2, F1, F2, rfl, d⟩; replace ST := Lib.hid (DK.join ST.out d); clear d)
      | ((with_reducible refine Step.gate_alloc (t := 40) rfl ?_); refine Step.freshAlloc rfl rfl (Duo.alloc_agg Duo.zero_two) ?_; intro g13 w2 b hg hb; replace ST := Lib.hid (ST.out.made b hg hb); clear b hb hg)
      | ((with_reducible refine Step.gate_store (t := 40) rfl ?_); refine Step.storeAll (vs := #[.pointer (some ⟨h1, 0, none⟩), .pointer (some ⟨h2, 0, none⟩)]) ST.out.kn.at0 rfl rfl rfl rfl rfl size_two rfl rfl ?_; intro w3 nb m; replace ST := Lib.hid (ST.out.set (ST.out.kn.set0 nb m) m ⟨_, List.mem_of_getElem? (i := 0) rfl, rfl⟩ rfl); clear nb m)
      | ((with_reducible refine Step.gate_load (t := 25) rfl ?_); refine Step.loadAll ST.out.kn.at4 rfl rfl rfl Tryz.underlying25 rfl (size_hart _) ?_)
      | (go_at_call 23; (with_reducible refine (TS.out _ _ _ _ _ _ ST.out.core1).mono ?_); rintro e w10 ⟨rfl, F3, hk, m, hF⟩; replace ST := Lib.hid (ST.out.step1 hk m hF); clear hk m hF)
      | ((with_reducible refine Step.gate_alloc (t := 25) rfl ?_); refine Step.freshAlloc rfl rfl (alloc_agg zero_hart) ?_; intro g15 w2 b hg hb; replace ST := Lib.hid (ST.out.made b hg hb); clear b hb hg)
      | ((with_reducible refine Step.gate_alloc (t := 46) rfl ?_); refine Step.freshAlloc rfl rfl (alloc_agg zero_ev) ?_; intro g16 w2 b hg hb; replace ST := Lib.hid (ST.out.made b hg hb); clear b hb hg)
      | ((with_reducible refine Step.gate_store (t := 25) rfl ?_); refine Step.storeAll ST.out.kn.at1 rfl rfl rfl rfl rfl (size_hart _) rfl (hc_all _) ?_; intro w3 nb m; replace ST := Lib.hid (ST.out.set (ST.out.kn.set1 nb m) m ⟨_, List.mem_of_getElem? (i := 1) rfl, rfl⟩ rfl); clear nb m)
      | ((with_reducible refine Step.gate_store (t := 46) rfl ?_); refine Step.storeAll (vs := #[.int .i64 1, .int .i64 0, .int .u64 0, .int .u64 0, .bool false, .bool false]) ST.out.kn.at0 rfl rfl rfl rfl rfl size_ev rfl rfl ?_; intro w3 nb m; replace ST := Lib.hid (ST.out.set (ST.out.kn.set0 nb m) m ⟨_, List.mem_of_getElem? (i := 0) rfl, rfl⟩ rfl); clear nb m)
      | ((with_reducible refine Step.gate_load (t := 46) rfl ?_); refine Step.loadAll ST.out.kn.at0 rfl rfl rfl Tryz.underlying46 rfl size_ev ?_)
      | ((with_reducible refine Step.gate_load (t := 22) rfl ?_); refine Step.loadG ST.out.kn.at1 rfl rfl rfl pl_u64 r43 ?_)
      | ((with_reducible refine Step.gate_load (t := 22) rfl ?_); refine Step.loadG ST.out.kn.at1 rfl rfl rfl pl_u64 r44 ?_)
      | ((with_reducible refine Step.gate_load (t := 22) rfl ?_); refine Step.loadG ST.out.kn.at1 rfl rfl rfl pl_u64 r42 ?_)
      | ((with_reducible refine Step.gate_load (t := 23) rfl ?_); refine loadMidW ST.out.kn.at1 rfl rfl rfl rx1 Tryz.underlying23 rfl (size_arr _) ?_)
      | ((with_reducible refine Step.gate_load (t := 23) rfl ?_); refine loadMidW ST.out.kn.at5 rfl rfl rfl rx2 Tryz.underlying23 rfl (size_arr _) ?_)
      | ((with_reducible refine gate_bin (t := 23) rfl ?_); refine valueW (v := .bool true) rfl (eql_arr rfl rfl rfl _) ?_)
      | ((with_reducible refine Step.gate_load (t := 40) rfl ?_); refine loadAllW ST.out.kn.at2 rfl rfl rfl Tryz.underlying40 rfl size_two ?_)
      | (go_at_call 26; (with_reducible refine (same_dk ST.out).mono ?_); rintro e w' ⟨rfl, hb⟩; replace ST := Lib.hid (ST.out.call hb); clear hb)
      | (go_at_call 15; (with_reducible refine (awake_any _).mono ?_); rintro e w' ⟨rfl, hb⟩; replace ST := Lib.hid (ST.out.call hb); clear hb))
    all_goals go_ret
    all_goals exact ⟨rfl, ST.out.below⟩)
set_option maxHeartbeats 8000000 in
theorem mis_law_ml4 (h : Hrt) (hf : Fit h) (size addr va : Int) (TP : Hid (∀ w, Calls Tryz.prog 25 #[.int .i64 size, .int .i64 3] w fun e w' => e = .returned (.int .i64 1) ∧ w = w')) (ha : U64 addr) (hva : U64 va) (hz : (addr % 4 = 0 ∧ va = addr + 1) ∨ (¬ addr % 4 = 0 ∧ va = addr)) (W : World) : Calls Tryz.prog 10 #[.agg (hc h), .int .i64 size, .int .u64 addr, .bool false] W fun e w' => e = .returned (.bool true) ∧ Below W.heap.size W w' := by
  have TC0 := Lib.hid (calm_any h hf)
  have hal : ¬ va % 4 = 0 := by omega
  have hh := ha.out
  have F := calm5_fit hf hva
  have c0 : (calmH h).x 0 = 0 := (show xup h.x 0 0 0 = 0 from xup_at _ _ _)
  have cpc : (calmH h).pc = 2147483648 := rfl
  have TS := Lib.hid (fun (X : World) (gc gm : Nat) (tv : Value) (m0 : Nat → Int) (F0 : Nat → Prop) (hk : Kor X gc gm tv 0 2147483648 1 (wr m0 0 4 172931) F0) => mis_l (u := 172931) (n := 4) hk _ F rfl rfl rfl ⟨by decide, by decide⟩ ml4_d (by kernel_rfl) 4 rfl (by decide) va (show xup (calmH h).x 5 va 5 = va from xup_at _ _ _) hva hal)
  clear F
  generalize calmH h = C at *
  obtain ⟨H2, eH⟩ : ∃ H, H = misH { C with x := xup C.x 5 va } 4 va := ⟨_, rfl⟩
  have hx : H2.x = xup C.x 5 va := by rw [eH]; exact mis_x (C := { C with x := xup C.x 5 va }) ((xup_ne (i := 5) (j := 0) C.x va (by decide)).trans c0) _ _
  have r43 : (hc H2)[43]? = some (.int .u64 4) := by rw [eH]; rfl
  have r44 : (hc H2)[44]? = some (.int .u64 va) := by rw [eH]; rfl
  have r42 : (hc H2)[42]? = some (.int .u64 2147483648) := by
    show some (Value.int .u64 H2.sepc) = _
    rw [eH, mis_pc (C := { C with x := xup C.x 5 va }) cpc]
  have rx1 : Row (hc H2) 0 (xa (xup C.x 5 va)) := by rw [← hx]; exact row_x H2
  have rx2 : Row (hc { C with x := xup C.x 5 va }) 0 (xa (xup C.x 5 va)) := row_x _
  rw [← eH] at TS
  obtain ⟨a0, a1⟩ := hh
  clear eH hx c0 cpc hf hva ha hal
  rcases hz with ⟨hz, rfl⟩ | ⟨hz, rfl⟩
  all_goals first
    | have hzb : (addr % 4 == 0) = true := beq_iff_eq.2 hz
    | have hzb : (addr % 4 == 0) = false := beq_eq_false_iff_ne.2 hz
    | have hzb : (va % 4 == 0) = false := beq_eq_false_iff_ne.2 hz
  all_goals (try have hwr : IntKind.u64.wrap (addr + 1) = addr + 1 := IntWalk.u64_in _ (by omega))
  all_goals clear hz
  all_goals (
    go_enter Tryz.func10, Tryz.ntmps10
    have ST := Lib.hid (Kn.nil (S := Step.Nil) (W := W))
    go_wp2_with (first
      | ((with_reducible refine Step.gate_box (t := 25) rfl ?_); refine Step.fresh (cs := hc h) (T := 25) rfl ?hr ?_; (case hr => first | (go_simp; done) | (go_simp; rfl)); intro g4 w1 b hg hb; replace ST := Lib.hid (ST.out.made b hg hb); clear b hb; clear hg)
      | ((with_reducible refine Step.gate_load (t := 25) rfl ?_); refine Step.loadAll ST.out.at0 rfl rfl rfl Tryz.underlying25 rfl (size_hart _) ?_)
      | (go_at_call 24; (with_reducible refine (TC0.out _).mono ?_); rintro e w' ⟨rfl, hb⟩; replace ST := Lib.hid (ST.out.call hb); clear hb)
      | ((with_reducible refine Step.gate_store (t := 25) rfl ?_); refine Step.storeAll ST.out.at0 rfl rfl rfl rfl rfl (size_hart _) rfl (hc_all _) ?_; intro w3 nb m; replace ST := Lib.hid (ST.out.set0 nb m); clear nb m)
      | ((with_reducible refine Step.gate_build (t := 53) rfl ?_); refine Step.freshSlice (cs := #[.int .i64 2, .int .i64 4, .int .i64 8]) (T := 3) (n := 3) (m := 3) rfl ?hr ?_; (case hr => first | (go_simp; done) | (go_simp; rfl)); intro gs w1 b hg hb; replace ST := Lib.hid (ST.out.made b hg hb); clear b hg hb)
      | (go_at_call 25; (with_reducible refine (TP.out _).mono ?_); rintro e w' ⟨rfl, rfl⟩)
      | ((with_reducible refine Step.gate_load (t := 3) rfl ?_); refine Step.load ST.out.at0 rfl rfl rfl pl_int rfl ?_)
      | ((with_reducible refine Step.gate_store (t := 22) rfl ?_); refine Step.store ST.out.at1 rfl rfl rfl rfl rfl pl_u64 rfl rfl ?_; intro w3 nb m; simp [go_sem, set_x5] at nb; replace ST := Lib.hid (ST.out.set1 nb m); clear nb m)
      | ((with_reducible refine Step.gate_alloc (t := 44) rfl ?_); refine Step.freshAlloc rfl rfl (alloc_agg zero_inst) ?_; intro g10 w2 b hg hb; replace ST := Lib.hid (ST.out.made b hg hb); clear b hb hg)
      | ((with_reducible refine Step.gate_store (t := 44) rfl ?_); refine Step.storeAll ST.out.at0 rfl rfl rfl rfl rfl size_inst rfl rfl ?_; intro w3 nb m; replace ST := Lib.hid (ST.out.set0 nb m); clear nb m)
      | ((with_reducible refine Step.gate_load (t := 44) rfl ?_); refine Step.loadAll ST.out.at0 rfl rfl rfl Tryz.underlying44 rfl size_inst ?_)
      | (go_at_call 22; (with_reducible refine (one_ml4 _).mono ?_); rintro e w9 ⟨gc, gt, h1, h2, F1, F2, rfl, d⟩; replace ST := Lib.hid (DK.join ST.out d); clear d)
      | ((with_reducible refine Step.gate_alloc (t := 40) rfl ?_); refine Step.freshAlloc rfl rfl (Duo.alloc_agg Duo.zero_two) ?_; intro g13 w2 b hg hb; replace ST := Lib.hid (ST.out.made b hg hb); clear b hb hg)
      | ((with_reducible refine Step.gate_store (t := 40) rfl ?_); refine Step.storeAll (vs := #[.pointer (some ⟨h1, 0, none⟩), .pointer (some ⟨h2, 0, none⟩)]) ST.out.kn.at0 rfl rfl rfl rfl rfl size_two rfl rfl ?_; intro w3 nb m; replace ST := Lib.hid (ST.out.set (ST.out.kn.set0 nb m) m ⟨_, List.mem_of_getElem? (i := 0) rfl, rfl⟩ rfl); clear nb m)
      | ((with_reducible refine Step.gate_load (t := 25) rfl ?_); refine Step.loadAll ST.out.kn.at4 rfl rfl rfl Tryz.underlying25 rfl (size_hart _) ?_)
      | (go_at_call 23; (with_reducible refine (TS.out _ _ _ _ _ _ ST.out.core1).mono ?_); rintro e w10 ⟨rfl, F3, hk, m, hF⟩; replace ST := Lib.hid (ST.out.step1 hk m hF); clear hk m hF)
      | ((with_reducible refine Step.gate_alloc (t := 25) rfl ?_); refine Step.freshAlloc rfl rfl (alloc_agg zero_hart) ?_; intro g15 w2 b hg hb; replace ST := Lib.hid (ST.out.made b hg hb); clear b hb hg)
      | ((with_reducible refine Step.gate_alloc (t := 46) rfl ?_); refine Step.freshAlloc rfl rfl (alloc_agg zero_ev) ?_; intro g16 w2 b hg hb; replace ST := Lib.hid (ST.out.made b hg hb); clear b hb hg)
      | ((with_reducible refine Step.gate_store (t := 25) rfl ?_); refine Step.storeAll ST.out.kn.at1 rfl rfl rfl rfl rfl (size_hart _) rfl (hc_all _) ?_; intro w3 nb m; replace ST := Lib.hid (ST.out.set (ST.out.kn.set1 nb m) m ⟨_, List.mem_of_getElem? (i := 1) rfl, rfl⟩ rfl); clear nb m)
      | ((with_reducible refine Step.gate_store (t := 46) rfl ?_); refine Step.storeAll (vs := #[.int .i64 1, .int .i64 0, .int .u64 0, .int .u64 0, .bool false, .bool false]) ST.out.kn.at0 rfl rfl rfl rfl rfl size_ev rfl rfl ?_; intro w3 nb m; replace ST := Lib.hid (ST.out.set (ST.out.kn.set0 nb m) m ⟨_, List.mem_of_getElem? (i := 0) rfl, rfl⟩ rfl); clear nb m)
      | ((with_reducible refine Step.gate_load (t := 46) rfl ?_); refine Step.loadAll ST.out.kn.at0 rfl rfl rfl Tryz.underlying46 rfl size_ev ?_)
      | ((with_reducible refine Step.gate_load (t := 22) rfl ?_); refine Step.loadG ST.out.kn.at1 rfl rfl rfl pl_u64 r43 ?_)
      | ((with_reducible refine Step.gate_load (t := 22) rfl ?_); refine Step.loadG ST.out.kn.at1 rfl rfl rfl pl_u64 r44 ?_)
      | ((with_reducible refine Step.gate_load (t := 22) rfl ?_); refine Step.loadG ST.out.kn.at1 rfl rfl rfl pl_u64 r42 ?_)
      | ((with_reducible refine Step.gate_load (t := 23) rfl ?_); refine loadMidW ST.out.kn.at1 rfl rfl rfl rx1 Tryz.underlying23 rfl (size_arr _) ?_)
      | ((with_reducible refine Step.gate_load (t := 23) rfl ?_); refine loadMidW ST.out.kn.at5 rfl rfl rfl rx2 Tryz.underlying23 rfl (size_arr _) ?_)
      | ((with_reducible refine gate_bin (t := 23) rfl ?_); refine valueW (v := .bool true) rfl (eql_arr rfl rfl rfl _) ?_)
      | ((with_reducible refine Step.gate_load (t := 40) rfl ?_); refine loadAllW ST.out.kn.at2 rfl rfl rfl Tryz.underlying40 rfl size_two ?_)
      | (go_at_call 26; (with_reducible refine (same_dk ST.out).mono ?_); rintro e w' ⟨rfl, hb⟩; replace ST := Lib.hid (ST.out.call hb); clear hb)
      | (go_at_call 15; (with_reducible refine (awake_any _).mono ?_); rintro e w' ⟨rfl, hb⟩; replace ST := Lib.hid (ST.out.call hb); clear hb))
    all_goals go_ret
    all_goals exact ⟨rfl, ST.out.below⟩)
set_option maxHeartbeats 8000000 in
theorem mis_law_ml8 (h : Hrt) (hf : Fit h) (size addr va : Int) (TP : Hid (∀ w, Calls Tryz.prog 25 #[.int .i64 size, .int .i64 3] w fun e w' => e = .returned (.int .i64 2) ∧ w = w')) (ha : U64 addr) (hva : U64 va) (hz : (addr % 8 = 0 ∧ va = addr + 1) ∨ (¬ addr % 8 = 0 ∧ va = addr)) (W : World) : Calls Tryz.prog 10 #[.agg (hc h), .int .i64 size, .int .u64 addr, .bool false] W fun e w' => e = .returned (.bool true) ∧ Below W.heap.size W w' := by
  have TC0 := Lib.hid (calm_any h hf)
  have hal : ¬ va % 8 = 0 := by omega
  have hh := ha.out
  have F := calm5_fit hf hva
  have c0 : (calmH h).x 0 = 0 := (show xup h.x 0 0 0 = 0 from xup_at _ _ _)
  have cpc : (calmH h).pc = 2147483648 := rfl
  have TS := Lib.hid (fun (X : World) (gc gm : Nat) (tv : Value) (m0 : Nat → Int) (F0 : Nat → Prop) (hk : Kor X gc gm tv 0 2147483648 1 (wr m0 0 4 177027) F0) => mis_l (u := 177027) (n := 8) hk _ F rfl rfl rfl ⟨by decide, by decide⟩ ml8_d (by kernel_rfl) 8 rfl (by decide) va (show xup (calmH h).x 5 va 5 = va from xup_at _ _ _) hva hal)
  clear F
  generalize calmH h = C at *
  obtain ⟨H2, eH⟩ : ∃ H, H = misH { C with x := xup C.x 5 va } 4 va := ⟨_, rfl⟩
  have hx : H2.x = xup C.x 5 va := by rw [eH]; exact mis_x (C := { C with x := xup C.x 5 va }) ((xup_ne (i := 5) (j := 0) C.x va (by decide)).trans c0) _ _
  have r43 : (hc H2)[43]? = some (.int .u64 4) := by rw [eH]; rfl
  have r44 : (hc H2)[44]? = some (.int .u64 va) := by rw [eH]; rfl
  have r42 : (hc H2)[42]? = some (.int .u64 2147483648) := by
    show some (Value.int .u64 H2.sepc) = _
    rw [eH, mis_pc (C := { C with x := xup C.x 5 va }) cpc]
  have rx1 : Row (hc H2) 0 (xa (xup C.x 5 va)) := by rw [← hx]; exact row_x H2
  have rx2 : Row (hc { C with x := xup C.x 5 va }) 0 (xa (xup C.x 5 va)) := row_x _
  rw [← eH] at TS
  obtain ⟨a0, a1⟩ := hh
  clear eH hx c0 cpc hf hva ha hal
  rcases hz with ⟨hz, rfl⟩ | ⟨hz, rfl⟩
  all_goals first
    | have hzb : (addr % 8 == 0) = true := beq_iff_eq.2 hz
    | have hzb : (addr % 8 == 0) = false := beq_eq_false_iff_ne.2 hz
    | have hzb : (va % 8 == 0) = false := beq_eq_false_iff_ne.2 hz
  all_goals (try have hwr : IntKind.u64.wrap (addr + 1) = addr + 1 := IntWalk.u64_in _ (by omega))
  all_goals clear hz
  all_goals (
    go_enter Tryz.func10, Tryz.ntmps10
    have ST := Lib.hid (Kn.nil (S := Step.Nil) (W := W))
    go_wp2_with (first
      | ((with_reducible refine Step.gate_box (t := 25) rfl ?_); refine Step.fresh (cs := hc h) (T := 25) rfl ?hr ?_; (case hr => first | (go_simp; done) | (go_simp; rfl)); intro g4 w1 b hg hb; replace ST := Lib.hid (ST.out.made b hg hb); clear b hb; clear hg)
      | ((with_reducible refine Step.gate_load (t := 25) rfl ?_); refine Step.loadAll ST.out.at0 rfl rfl rfl Tryz.underlying25 rfl (size_hart _) ?_)
      | (go_at_call 24; (with_reducible refine (TC0.out _).mono ?_); rintro e w' ⟨rfl, hb⟩; replace ST := Lib.hid (ST.out.call hb); clear hb)
      | ((with_reducible refine Step.gate_store (t := 25) rfl ?_); refine Step.storeAll ST.out.at0 rfl rfl rfl rfl rfl (size_hart _) rfl (hc_all _) ?_; intro w3 nb m; replace ST := Lib.hid (ST.out.set0 nb m); clear nb m)
      | ((with_reducible refine Step.gate_build (t := 53) rfl ?_); refine Step.freshSlice (cs := #[.int .i64 2, .int .i64 4, .int .i64 8]) (T := 3) (n := 3) (m := 3) rfl ?hr ?_; (case hr => first | (go_simp; done) | (go_simp; rfl)); intro gs w1 b hg hb; replace ST := Lib.hid (ST.out.made b hg hb); clear b hg hb)
      | (go_at_call 25; (with_reducible refine (TP.out _).mono ?_); rintro e w' ⟨rfl, rfl⟩)
      | ((with_reducible refine Step.gate_load (t := 3) rfl ?_); refine Step.load ST.out.at0 rfl rfl rfl pl_int rfl ?_)
      | ((with_reducible refine Step.gate_store (t := 22) rfl ?_); refine Step.store ST.out.at1 rfl rfl rfl rfl rfl pl_u64 rfl rfl ?_; intro w3 nb m; simp [go_sem, set_x5] at nb; replace ST := Lib.hid (ST.out.set1 nb m); clear nb m)
      | ((with_reducible refine Step.gate_alloc (t := 44) rfl ?_); refine Step.freshAlloc rfl rfl (alloc_agg zero_inst) ?_; intro g10 w2 b hg hb; replace ST := Lib.hid (ST.out.made b hg hb); clear b hb hg)
      | ((with_reducible refine Step.gate_store (t := 44) rfl ?_); refine Step.storeAll ST.out.at0 rfl rfl rfl rfl rfl size_inst rfl rfl ?_; intro w3 nb m; replace ST := Lib.hid (ST.out.set0 nb m); clear nb m)
      | ((with_reducible refine Step.gate_load (t := 44) rfl ?_); refine Step.loadAll ST.out.at0 rfl rfl rfl Tryz.underlying44 rfl size_inst ?_)
      | (go_at_call 22; (with_reducible refine (one_ml8 _).mono ?_); rintro e w9 ⟨gc, gt, h1, h2, F1, F2, rfl, d⟩; replace ST := Lib.hid (DK.join ST.out d); clear d)
      | ((with_reducible refine Step.gate_alloc (t := 40) rfl ?_); refine Step.freshAlloc rfl rfl (Duo.alloc_agg Duo.zero_two) ?_; intro g13 w2 b hg hb; replace ST := Lib.hid (ST.out.made b hg hb); clear b hb hg)
      | ((with_reducible refine Step.gate_store (t := 40) rfl ?_); refine Step.storeAll (vs := #[.pointer (some ⟨h1, 0, none⟩), .pointer (some ⟨h2, 0, none⟩)]) ST.out.kn.at0 rfl rfl rfl rfl rfl size_two rfl rfl ?_; intro w3 nb m; replace ST := Lib.hid (ST.out.set (ST.out.kn.set0 nb m) m ⟨_, List.mem_of_getElem? (i := 0) rfl, rfl⟩ rfl); clear nb m)
      | ((with_reducible refine Step.gate_load (t := 25) rfl ?_); refine Step.loadAll ST.out.kn.at4 rfl rfl rfl Tryz.underlying25 rfl (size_hart _) ?_)
      | (go_at_call 23; (with_reducible refine (TS.out _ _ _ _ _ _ ST.out.core1).mono ?_); rintro e w10 ⟨rfl, F3, hk, m, hF⟩; replace ST := Lib.hid (ST.out.step1 hk m hF); clear hk m hF)
      | ((with_reducible refine Step.gate_alloc (t := 25) rfl ?_); refine Step.freshAlloc rfl rfl (alloc_agg zero_hart) ?_; intro g15 w2 b hg hb; replace ST := Lib.hid (ST.out.made b hg hb); clear b hb hg)
      | ((with_reducible refine Step.gate_alloc (t := 46) rfl ?_); refine Step.freshAlloc rfl rfl (alloc_agg zero_ev) ?_; intro g16 w2 b hg hb; replace ST := Lib.hid (ST.out.made b hg hb); clear b hb hg)
      | ((with_reducible refine Step.gate_store (t := 25) rfl ?_); refine Step.storeAll ST.out.kn.at1 rfl rfl rfl rfl rfl (size_hart _) rfl (hc_all _) ?_; intro w3 nb m; replace ST := Lib.hid (ST.out.set (ST.out.kn.set1 nb m) m ⟨_, List.mem_of_getElem? (i := 1) rfl, rfl⟩ rfl); clear nb m)
      | ((with_reducible refine Step.gate_store (t := 46) rfl ?_); refine Step.storeAll (vs := #[.int .i64 1, .int .i64 0, .int .u64 0, .int .u64 0, .bool false, .bool false]) ST.out.kn.at0 rfl rfl rfl rfl rfl size_ev rfl rfl ?_; intro w3 nb m; replace ST := Lib.hid (ST.out.set (ST.out.kn.set0 nb m) m ⟨_, List.mem_of_getElem? (i := 0) rfl, rfl⟩ rfl); clear nb m)
      | ((with_reducible refine Step.gate_load (t := 46) rfl ?_); refine Step.loadAll ST.out.kn.at0 rfl rfl rfl Tryz.underlying46 rfl size_ev ?_)
      | ((with_reducible refine Step.gate_load (t := 22) rfl ?_); refine Step.loadG ST.out.kn.at1 rfl rfl rfl pl_u64 r43 ?_)
      | ((with_reducible refine Step.gate_load (t := 22) rfl ?_); refine Step.loadG ST.out.kn.at1 rfl rfl rfl pl_u64 r44 ?_)
      | ((with_reducible refine Step.gate_load (t := 22) rfl ?_); refine Step.loadG ST.out.kn.at1 rfl rfl rfl pl_u64 r42 ?_)
      | ((with_reducible refine Step.gate_load (t := 23) rfl ?_); refine loadMidW ST.out.kn.at1 rfl rfl rfl rx1 Tryz.underlying23 rfl (size_arr _) ?_)
      | ((with_reducible refine Step.gate_load (t := 23) rfl ?_); refine loadMidW ST.out.kn.at5 rfl rfl rfl rx2 Tryz.underlying23 rfl (size_arr _) ?_)
      | ((with_reducible refine gate_bin (t := 23) rfl ?_); refine valueW (v := .bool true) rfl (eql_arr rfl rfl rfl _) ?_)
      | ((with_reducible refine Step.gate_load (t := 40) rfl ?_); refine loadAllW ST.out.kn.at2 rfl rfl rfl Tryz.underlying40 rfl size_two ?_)
      | (go_at_call 26; (with_reducible refine (same_dk ST.out).mono ?_); rintro e w' ⟨rfl, hb⟩; replace ST := Lib.hid (ST.out.call hb); clear hb)
      | (go_at_call 15; (with_reducible refine (awake_any _).mono ?_); rintro e w' ⟨rfl, hb⟩; replace ST := Lib.hid (ST.out.call hb); clear hb))
    all_goals go_ret
    all_goals exact ⟨rfl, ST.out.below⟩)
set_option maxHeartbeats 8000000 in
theorem mis_law_ms2 (h : Hrt) (hf : Fit h) (size addr va : Int) (TP : Hid (∀ w, Calls Tryz.prog 25 #[.int .i64 size, .int .i64 3] w fun e w' => e = .returned (.int .i64 0) ∧ w = w')) (ha : U64 addr) (hva : U64 va) (hz : (addr % 2 = 0 ∧ va = addr + 1) ∨ (¬ addr % 2 = 0 ∧ va = addr)) (W : World) : Calls Tryz.prog 10 #[.agg (hc h), .int .i64 size, .int .u64 addr, .bool true] W fun e w' => e = .returned (.bool true) ∧ Below W.heap.size W w' := by
  have TC0 := Lib.hid (calm_any h hf)
  have hal : ¬ va % 2 = 0 := by omega
  have hh := ha.out
  have F := calm5_fit hf hva
  have c0 : (calmH h).x 0 = 0 := (show xup h.x 0 0 0 = 0 from xup_at _ _ _)
  have cpc : (calmH h).pc = 2147483648 := rfl
  have TS := Lib.hid (fun (X : World) (gc gm : Nat) (tv : Value) (m0 : Nat → Int) (F0 : Nat → Prop) (hk : Kor X gc gm tv 0 2147483648 1 (wr m0 0 4 6459427) F0) => mis_s (u := 6459427) (n := 2) hk _ F rfl rfl rfl ⟨by decide, by decide⟩ ms2_d (by kernel_rfl) 2 rfl (by decide) va (show xup (calmH h).x 5 va 5 = va from xup_at _ _ _) hva hal)
  clear F
  generalize calmH h = C at *
  obtain ⟨H2, eH⟩ : ∃ H, H = misH { C with x := xup C.x 5 va } 6 va := ⟨_, rfl⟩
  have hx : H2.x = xup C.x 5 va := by rw [eH]; exact mis_x (C := { C with x := xup C.x 5 va }) ((xup_ne (i := 5) (j := 0) C.x va (by decide)).trans c0) _ _
  have r43 : (hc H2)[43]? = some (.int .u64 6) := by rw [eH]; rfl
  have r44 : (hc H2)[44]? = some (.int .u64 va) := by rw [eH]; rfl
  have r42 : (hc H2)[42]? = some (.int .u64 2147483648) := by
    show some (Value.int .u64 H2.sepc) = _
    rw [eH, mis_pc (C := { C with x := xup C.x 5 va }) cpc]
  have rx1 : Row (hc H2) 0 (xa (xup C.x 5 va)) := by rw [← hx]; exact row_x H2
  have rx2 : Row (hc { C with x := xup C.x 5 va }) 0 (xa (xup C.x 5 va)) := row_x _
  rw [← eH] at TS
  obtain ⟨a0, a1⟩ := hh
  clear eH hx c0 cpc hf hva ha hal
  rcases hz with ⟨hz, rfl⟩ | ⟨hz, rfl⟩
  all_goals first
    | have hzb : (addr % 2 == 0) = true := beq_iff_eq.2 hz
    | have hzb : (addr % 2 == 0) = false := beq_eq_false_iff_ne.2 hz
    | have hzb : (va % 2 == 0) = false := beq_eq_false_iff_ne.2 hz
  all_goals (try have hwr : IntKind.u64.wrap (addr + 1) = addr + 1 := IntWalk.u64_in _ (by omega))
  all_goals clear hz
  all_goals (
    go_enter Tryz.func10, Tryz.ntmps10
    have ST := Lib.hid (Kn.nil (S := Step.Nil) (W := W))
    go_wp2_with (first
      | ((with_reducible refine Step.gate_box (t := 25) rfl ?_); refine Step.fresh (cs := hc h) (T := 25) rfl ?hr ?_; (case hr => first | (go_simp; done) | (go_simp; rfl)); intro g4 w1 b hg hb; replace ST := Lib.hid (ST.out.made b hg hb); clear b hb; clear hg)
      | ((with_reducible refine Step.gate_load (t := 25) rfl ?_); refine Step.loadAll ST.out.at0 rfl rfl rfl Tryz.underlying25 rfl (size_hart _) ?_)
      | (go_at_call 24; (with_reducible refine (TC0.out _).mono ?_); rintro e w' ⟨rfl, hb⟩; replace ST := Lib.hid (ST.out.call hb); clear hb)
      | ((with_reducible refine Step.gate_store (t := 25) rfl ?_); refine Step.storeAll ST.out.at0 rfl rfl rfl rfl rfl (size_hart _) rfl (hc_all _) ?_; intro w3 nb m; replace ST := Lib.hid (ST.out.set0 nb m); clear nb m)
      | ((with_reducible refine Step.gate_build (t := 53) rfl ?_); refine Step.freshSlice (cs := #[.int .i64 2, .int .i64 4, .int .i64 8]) (T := 3) (n := 3) (m := 3) rfl ?hr ?_; (case hr => first | (go_simp; done) | (go_simp; rfl)); intro gs w1 b hg hb; replace ST := Lib.hid (ST.out.made b hg hb); clear b hg hb)
      | (go_at_call 25; (with_reducible refine (TP.out _).mono ?_); rintro e w' ⟨rfl, rfl⟩)
      | ((with_reducible refine Step.gate_load (t := 3) rfl ?_); refine Step.load ST.out.at0 rfl rfl rfl pl_int rfl ?_)
      | ((with_reducible refine Step.gate_store (t := 22) rfl ?_); refine Step.store ST.out.at1 rfl rfl rfl rfl rfl pl_u64 rfl rfl ?_; intro w3 nb m; simp [go_sem, set_x5] at nb; replace ST := Lib.hid (ST.out.set1 nb m); clear nb m)
      | ((with_reducible refine Step.gate_alloc (t := 44) rfl ?_); refine Step.freshAlloc rfl rfl (alloc_agg zero_inst) ?_; intro g10 w2 b hg hb; replace ST := Lib.hid (ST.out.made b hg hb); clear b hb hg)
      | ((with_reducible refine Step.gate_store (t := 44) rfl ?_); refine Step.storeAll ST.out.at0 rfl rfl rfl rfl rfl size_inst rfl rfl ?_; intro w3 nb m; replace ST := Lib.hid (ST.out.set0 nb m); clear nb m)
      | ((with_reducible refine Step.gate_load (t := 44) rfl ?_); refine Step.loadAll ST.out.at0 rfl rfl rfl Tryz.underlying44 rfl size_inst ?_)
      | (go_at_call 22; (with_reducible refine (one_ms2 _).mono ?_); rintro e w9 ⟨gc, gt, h1, h2, F1, F2, rfl, d⟩; replace ST := Lib.hid (DK.join ST.out d); clear d)
      | ((with_reducible refine Step.gate_alloc (t := 40) rfl ?_); refine Step.freshAlloc rfl rfl (Duo.alloc_agg Duo.zero_two) ?_; intro g13 w2 b hg hb; replace ST := Lib.hid (ST.out.made b hg hb); clear b hb hg)
      | ((with_reducible refine Step.gate_store (t := 40) rfl ?_); refine Step.storeAll (vs := #[.pointer (some ⟨h1, 0, none⟩), .pointer (some ⟨h2, 0, none⟩)]) ST.out.kn.at0 rfl rfl rfl rfl rfl size_two rfl rfl ?_; intro w3 nb m; replace ST := Lib.hid (ST.out.set (ST.out.kn.set0 nb m) m ⟨_, List.mem_of_getElem? (i := 0) rfl, rfl⟩ rfl); clear nb m)
      | ((with_reducible refine Step.gate_load (t := 25) rfl ?_); refine Step.loadAll ST.out.kn.at4 rfl rfl rfl Tryz.underlying25 rfl (size_hart _) ?_)
      | (go_at_call 23; (with_reducible refine (TS.out _ _ _ _ _ _ ST.out.core1).mono ?_); rintro e w10 ⟨rfl, F3, hk, m, hF⟩; replace ST := Lib.hid (ST.out.step1 hk m hF); clear hk m hF)
      | ((with_reducible refine Step.gate_alloc (t := 25) rfl ?_); refine Step.freshAlloc rfl rfl (alloc_agg zero_hart) ?_; intro g15 w2 b hg hb; replace ST := Lib.hid (ST.out.made b hg hb); clear b hb hg)
      | ((with_reducible refine Step.gate_alloc (t := 46) rfl ?_); refine Step.freshAlloc rfl rfl (alloc_agg zero_ev) ?_; intro g16 w2 b hg hb; replace ST := Lib.hid (ST.out.made b hg hb); clear b hb hg)
      | ((with_reducible refine Step.gate_store (t := 25) rfl ?_); refine Step.storeAll ST.out.kn.at1 rfl rfl rfl rfl rfl (size_hart _) rfl (hc_all _) ?_; intro w3 nb m; replace ST := Lib.hid (ST.out.set (ST.out.kn.set1 nb m) m ⟨_, List.mem_of_getElem? (i := 1) rfl, rfl⟩ rfl); clear nb m)
      | ((with_reducible refine Step.gate_store (t := 46) rfl ?_); refine Step.storeAll (vs := #[.int .i64 1, .int .i64 0, .int .u64 0, .int .u64 0, .bool false, .bool false]) ST.out.kn.at0 rfl rfl rfl rfl rfl size_ev rfl rfl ?_; intro w3 nb m; replace ST := Lib.hid (ST.out.set (ST.out.kn.set0 nb m) m ⟨_, List.mem_of_getElem? (i := 0) rfl, rfl⟩ rfl); clear nb m)
      | ((with_reducible refine Step.gate_load (t := 46) rfl ?_); refine Step.loadAll ST.out.kn.at0 rfl rfl rfl Tryz.underlying46 rfl size_ev ?_)
      | ((with_reducible refine Step.gate_load (t := 22) rfl ?_); refine Step.loadG ST.out.kn.at1 rfl rfl rfl pl_u64 r43 ?_)
      | ((with_reducible refine Step.gate_load (t := 22) rfl ?_); refine Step.loadG ST.out.kn.at1 rfl rfl rfl pl_u64 r44 ?_)
      | ((with_reducible refine Step.gate_load (t := 22) rfl ?_); refine Step.loadG ST.out.kn.at1 rfl rfl rfl pl_u64 r42 ?_)
      | ((with_reducible refine Step.gate_load (t := 23) rfl ?_); refine loadMidW ST.out.kn.at1 rfl rfl rfl rx1 Tryz.underlying23 rfl (size_arr _) ?_)
      | ((with_reducible refine Step.gate_load (t := 23) rfl ?_); refine loadMidW ST.out.kn.at5 rfl rfl rfl rx2 Tryz.underlying23 rfl (size_arr _) ?_)
      | ((with_reducible refine gate_bin (t := 23) rfl ?_); refine valueW (v := .bool true) rfl (eql_arr rfl rfl rfl _) ?_)
      | ((with_reducible refine Step.gate_load (t := 40) rfl ?_); refine loadAllW ST.out.kn.at2 rfl rfl rfl Tryz.underlying40 rfl size_two ?_)
      | (go_at_call 26; (with_reducible refine (same_dk ST.out).mono ?_); rintro e w' ⟨rfl, hb⟩; replace ST := Lib.hid (ST.out.call hb); clear hb)
      | (go_at_call 15; (with_reducible refine (awake_any _).mono ?_); rintro e w' ⟨rfl, hb⟩; replace ST := Lib.hid (ST.out.call hb); clear hb))
    all_goals go_ret
    all_goals exact ⟨rfl, ST.out.below⟩)
set_option maxHeartbeats 8000000 in
theorem mis_law_ms4 (h : Hrt) (hf : Fit h) (size addr va : Int) (TP : Hid (∀ w, Calls Tryz.prog 25 #[.int .i64 size, .int .i64 3] w fun e w' => e = .returned (.int .i64 1) ∧ w = w')) (ha : U64 addr) (hva : U64 va) (hz : (addr % 4 = 0 ∧ va = addr + 1) ∨ (¬ addr % 4 = 0 ∧ va = addr)) (W : World) : Calls Tryz.prog 10 #[.agg (hc h), .int .i64 size, .int .u64 addr, .bool true] W fun e w' => e = .returned (.bool true) ∧ Below W.heap.size W w' := by
  have TC0 := Lib.hid (calm_any h hf)
  have hal : ¬ va % 4 = 0 := by omega
  have hh := ha.out
  have F := calm5_fit hf hva
  have c0 : (calmH h).x 0 = 0 := (show xup h.x 0 0 0 = 0 from xup_at _ _ _)
  have cpc : (calmH h).pc = 2147483648 := rfl
  have TS := Lib.hid (fun (X : World) (gc gm : Nat) (tv : Value) (m0 : Nat → Int) (F0 : Nat → Prop) (hk : Kor X gc gm tv 0 2147483648 1 (wr m0 0 4 6463523) F0) => mis_s (u := 6463523) (n := 4) hk _ F rfl rfl rfl ⟨by decide, by decide⟩ ms4_d (by kernel_rfl) 4 rfl (by decide) va (show xup (calmH h).x 5 va 5 = va from xup_at _ _ _) hva hal)
  clear F
  generalize calmH h = C at *
  obtain ⟨H2, eH⟩ : ∃ H, H = misH { C with x := xup C.x 5 va } 6 va := ⟨_, rfl⟩
  have hx : H2.x = xup C.x 5 va := by rw [eH]; exact mis_x (C := { C with x := xup C.x 5 va }) ((xup_ne (i := 5) (j := 0) C.x va (by decide)).trans c0) _ _
  have r43 : (hc H2)[43]? = some (.int .u64 6) := by rw [eH]; rfl
  have r44 : (hc H2)[44]? = some (.int .u64 va) := by rw [eH]; rfl
  have r42 : (hc H2)[42]? = some (.int .u64 2147483648) := by
    show some (Value.int .u64 H2.sepc) = _
    rw [eH, mis_pc (C := { C with x := xup C.x 5 va }) cpc]
  have rx1 : Row (hc H2) 0 (xa (xup C.x 5 va)) := by rw [← hx]; exact row_x H2
  have rx2 : Row (hc { C with x := xup C.x 5 va }) 0 (xa (xup C.x 5 va)) := row_x _
  rw [← eH] at TS
  obtain ⟨a0, a1⟩ := hh
  clear eH hx c0 cpc hf hva ha hal
  rcases hz with ⟨hz, rfl⟩ | ⟨hz, rfl⟩
  all_goals first
    | have hzb : (addr % 4 == 0) = true := beq_iff_eq.2 hz
    | have hzb : (addr % 4 == 0) = false := beq_eq_false_iff_ne.2 hz
    | have hzb : (va % 4 == 0) = false := beq_eq_false_iff_ne.2 hz
  all_goals (try have hwr : IntKind.u64.wrap (addr + 1) = addr + 1 := IntWalk.u64_in _ (by omega))
  all_goals clear hz
  all_goals (
    go_enter Tryz.func10, Tryz.ntmps10
    have ST := Lib.hid (Kn.nil (S := Step.Nil) (W := W))
    go_wp2_with (first
      | ((with_reducible refine Step.gate_box (t := 25) rfl ?_); refine Step.fresh (cs := hc h) (T := 25) rfl ?hr ?_; (case hr => first | (go_simp; done) | (go_simp; rfl)); intro g4 w1 b hg hb; replace ST := Lib.hid (ST.out.made b hg hb); clear b hb; clear hg)
      | ((with_reducible refine Step.gate_load (t := 25) rfl ?_); refine Step.loadAll ST.out.at0 rfl rfl rfl Tryz.underlying25 rfl (size_hart _) ?_)
      | (go_at_call 24; (with_reducible refine (TC0.out _).mono ?_); rintro e w' ⟨rfl, hb⟩; replace ST := Lib.hid (ST.out.call hb); clear hb)
      | ((with_reducible refine Step.gate_store (t := 25) rfl ?_); refine Step.storeAll ST.out.at0 rfl rfl rfl rfl rfl (size_hart _) rfl (hc_all _) ?_; intro w3 nb m; replace ST := Lib.hid (ST.out.set0 nb m); clear nb m)
      | ((with_reducible refine Step.gate_build (t := 53) rfl ?_); refine Step.freshSlice (cs := #[.int .i64 2, .int .i64 4, .int .i64 8]) (T := 3) (n := 3) (m := 3) rfl ?hr ?_; (case hr => first | (go_simp; done) | (go_simp; rfl)); intro gs w1 b hg hb; replace ST := Lib.hid (ST.out.made b hg hb); clear b hg hb)
      | (go_at_call 25; (with_reducible refine (TP.out _).mono ?_); rintro e w' ⟨rfl, rfl⟩)
      | ((with_reducible refine Step.gate_load (t := 3) rfl ?_); refine Step.load ST.out.at0 rfl rfl rfl pl_int rfl ?_)
      | ((with_reducible refine Step.gate_store (t := 22) rfl ?_); refine Step.store ST.out.at1 rfl rfl rfl rfl rfl pl_u64 rfl rfl ?_; intro w3 nb m; simp [go_sem, set_x5] at nb; replace ST := Lib.hid (ST.out.set1 nb m); clear nb m)
      | ((with_reducible refine Step.gate_alloc (t := 44) rfl ?_); refine Step.freshAlloc rfl rfl (alloc_agg zero_inst) ?_; intro g10 w2 b hg hb; replace ST := Lib.hid (ST.out.made b hg hb); clear b hb hg)
      | ((with_reducible refine Step.gate_store (t := 44) rfl ?_); refine Step.storeAll ST.out.at0 rfl rfl rfl rfl rfl size_inst rfl rfl ?_; intro w3 nb m; replace ST := Lib.hid (ST.out.set0 nb m); clear nb m)
      | ((with_reducible refine Step.gate_load (t := 44) rfl ?_); refine Step.loadAll ST.out.at0 rfl rfl rfl Tryz.underlying44 rfl size_inst ?_)
      | (go_at_call 22; (with_reducible refine (one_ms4 _).mono ?_); rintro e w9 ⟨gc, gt, h1, h2, F1, F2, rfl, d⟩; replace ST := Lib.hid (DK.join ST.out d); clear d)
      | ((with_reducible refine Step.gate_alloc (t := 40) rfl ?_); refine Step.freshAlloc rfl rfl (Duo.alloc_agg Duo.zero_two) ?_; intro g13 w2 b hg hb; replace ST := Lib.hid (ST.out.made b hg hb); clear b hb hg)
      | ((with_reducible refine Step.gate_store (t := 40) rfl ?_); refine Step.storeAll (vs := #[.pointer (some ⟨h1, 0, none⟩), .pointer (some ⟨h2, 0, none⟩)]) ST.out.kn.at0 rfl rfl rfl rfl rfl size_two rfl rfl ?_; intro w3 nb m; replace ST := Lib.hid (ST.out.set (ST.out.kn.set0 nb m) m ⟨_, List.mem_of_getElem? (i := 0) rfl, rfl⟩ rfl); clear nb m)
      | ((with_reducible refine Step.gate_load (t := 25) rfl ?_); refine Step.loadAll ST.out.kn.at4 rfl rfl rfl Tryz.underlying25 rfl (size_hart _) ?_)
      | (go_at_call 23; (with_reducible refine (TS.out _ _ _ _ _ _ ST.out.core1).mono ?_); rintro e w10 ⟨rfl, F3, hk, m, hF⟩; replace ST := Lib.hid (ST.out.step1 hk m hF); clear hk m hF)
      | ((with_reducible refine Step.gate_alloc (t := 25) rfl ?_); refine Step.freshAlloc rfl rfl (alloc_agg zero_hart) ?_; intro g15 w2 b hg hb; replace ST := Lib.hid (ST.out.made b hg hb); clear b hb hg)
      | ((with_reducible refine Step.gate_alloc (t := 46) rfl ?_); refine Step.freshAlloc rfl rfl (alloc_agg zero_ev) ?_; intro g16 w2 b hg hb; replace ST := Lib.hid (ST.out.made b hg hb); clear b hb hg)
      | ((with_reducible refine Step.gate_store (t := 25) rfl ?_); refine Step.storeAll ST.out.kn.at1 rfl rfl rfl rfl rfl (size_hart _) rfl (hc_all _) ?_; intro w3 nb m; replace ST := Lib.hid (ST.out.set (ST.out.kn.set1 nb m) m ⟨_, List.mem_of_getElem? (i := 1) rfl, rfl⟩ rfl); clear nb m)
      | ((with_reducible refine Step.gate_store (t := 46) rfl ?_); refine Step.storeAll (vs := #[.int .i64 1, .int .i64 0, .int .u64 0, .int .u64 0, .bool false, .bool false]) ST.out.kn.at0 rfl rfl rfl rfl rfl size_ev rfl rfl ?_; intro w3 nb m; replace ST := Lib.hid (ST.out.set (ST.out.kn.set0 nb m) m ⟨_, List.mem_of_getElem? (i := 0) rfl, rfl⟩ rfl); clear nb m)
      | ((with_reducible refine Step.gate_load (t := 46) rfl ?_); refine Step.loadAll ST.out.kn.at0 rfl rfl rfl Tryz.underlying46 rfl size_ev ?_)
      | ((with_reducible refine Step.gate_load (t := 22) rfl ?_); refine Step.loadG ST.out.kn.at1 rfl rfl rfl pl_u64 r43 ?_)
      | ((with_reducible refine Step.gate_load (t := 22) rfl ?_); refine Step.loadG ST.out.kn.at1 rfl rfl rfl pl_u64 r44 ?_)
      | ((with_reducible refine Step.gate_load (t := 22) rfl ?_); refine Step.loadG ST.out.kn.at1 rfl rfl rfl pl_u64 r42 ?_)
      | ((with_reducible refine Step.gate_load (t := 23) rfl ?_); refine loadMidW ST.out.kn.at1 rfl rfl rfl rx1 Tryz.underlying23 rfl (size_arr _) ?_)
      | ((with_reducible refine Step.gate_load (t := 23) rfl ?_); refine loadMidW ST.out.kn.at5 rfl rfl rfl rx2 Tryz.underlying23 rfl (size_arr _) ?_)
      | ((with_reducible refine gate_bin (t := 23) rfl ?_); refine valueW (v := .bool true) rfl (eql_arr rfl rfl rfl _) ?_)
      | ((with_reducible refine Step.gate_load (t := 40) rfl ?_); refine loadAllW ST.out.kn.at2 rfl rfl rfl Tryz.underlying40 rfl size_two ?_)
      | (go_at_call 26; (with_reducible refine (same_dk ST.out).mono ?_); rintro e w' ⟨rfl, hb⟩; replace ST := Lib.hid (ST.out.call hb); clear hb)
      | (go_at_call 15; (with_reducible refine (awake_any _).mono ?_); rintro e w' ⟨rfl, hb⟩; replace ST := Lib.hid (ST.out.call hb); clear hb))
    all_goals go_ret
    all_goals exact ⟨rfl, ST.out.below⟩)
set_option maxHeartbeats 8000000 in
theorem mis_law_ms8 (h : Hrt) (hf : Fit h) (size addr va : Int) (TP : Hid (∀ w, Calls Tryz.prog 25 #[.int .i64 size, .int .i64 3] w fun e w' => e = .returned (.int .i64 2) ∧ w = w')) (ha : U64 addr) (hva : U64 va) (hz : (addr % 8 = 0 ∧ va = addr + 1) ∨ (¬ addr % 8 = 0 ∧ va = addr)) (W : World) : Calls Tryz.prog 10 #[.agg (hc h), .int .i64 size, .int .u64 addr, .bool true] W fun e w' => e = .returned (.bool true) ∧ Below W.heap.size W w' := by
  have TC0 := Lib.hid (calm_any h hf)
  have hal : ¬ va % 8 = 0 := by omega
  have hh := ha.out
  have F := calm5_fit hf hva
  have c0 : (calmH h).x 0 = 0 := (show xup h.x 0 0 0 = 0 from xup_at _ _ _)
  have cpc : (calmH h).pc = 2147483648 := rfl
  have TS := Lib.hid (fun (X : World) (gc gm : Nat) (tv : Value) (m0 : Nat → Int) (F0 : Nat → Prop) (hk : Kor X gc gm tv 0 2147483648 1 (wr m0 0 4 6467619) F0) => mis_s (u := 6467619) (n := 8) hk _ F rfl rfl rfl ⟨by decide, by decide⟩ ms8_d (by kernel_rfl) 8 rfl (by decide) va (show xup (calmH h).x 5 va 5 = va from xup_at _ _ _) hva hal)
  clear F
  generalize calmH h = C at *
  obtain ⟨H2, eH⟩ : ∃ H, H = misH { C with x := xup C.x 5 va } 6 va := ⟨_, rfl⟩
  have hx : H2.x = xup C.x 5 va := by rw [eH]; exact mis_x (C := { C with x := xup C.x 5 va }) ((xup_ne (i := 5) (j := 0) C.x va (by decide)).trans c0) _ _
  have r43 : (hc H2)[43]? = some (.int .u64 6) := by rw [eH]; rfl
  have r44 : (hc H2)[44]? = some (.int .u64 va) := by rw [eH]; rfl
  have r42 : (hc H2)[42]? = some (.int .u64 2147483648) := by
    show some (Value.int .u64 H2.sepc) = _
    rw [eH, mis_pc (C := { C with x := xup C.x 5 va }) cpc]
  have rx1 : Row (hc H2) 0 (xa (xup C.x 5 va)) := by rw [← hx]; exact row_x H2
  have rx2 : Row (hc { C with x := xup C.x 5 va }) 0 (xa (xup C.x 5 va)) := row_x _
  rw [← eH] at TS
  obtain ⟨a0, a1⟩ := hh
  clear eH hx c0 cpc hf hva ha hal
  rcases hz with ⟨hz, rfl⟩ | ⟨hz, rfl⟩
  all_goals first
    | have hzb : (addr % 8 == 0) = true := beq_iff_eq.2 hz
    | have hzb : (addr % 8 == 0) = false := beq_eq_false_iff_ne.2 hz
    | have hzb : (va % 8 == 0) = false := beq_eq_false_iff_ne.2 hz
  all_goals (try have hwr : IntKind.u64.wrap (addr + 1) = addr + 1 := IntWalk.u64_in _ (by omega))
  all_goals clear hz
  all_goals (
    go_enter Tryz.func10, Tryz.ntmps10
    have ST := Lib.hid (Kn.nil (S := Step.Nil) (W := W))
    go_wp2_with (first
      | ((with_reducible refine Step.gate_box (t := 25) rfl ?_); refine Step.fresh (cs := hc h) (T := 25) rfl ?hr ?_; (case hr => first | (go_simp; done) | (go_simp; rfl)); intro g4 w1 b hg hb; replace ST := Lib.hid (ST.out.made b hg hb); clear b hb; clear hg)
      | ((with_reducible refine Step.gate_load (t := 25) rfl ?_); refine Step.loadAll ST.out.at0 rfl rfl rfl Tryz.underlying25 rfl (size_hart _) ?_)
      | (go_at_call 24; (with_reducible refine (TC0.out _).mono ?_); rintro e w' ⟨rfl, hb⟩; replace ST := Lib.hid (ST.out.call hb); clear hb)
      | ((with_reducible refine Step.gate_store (t := 25) rfl ?_); refine Step.storeAll ST.out.at0 rfl rfl rfl rfl rfl (size_hart _) rfl (hc_all _) ?_; intro w3 nb m; replace ST := Lib.hid (ST.out.set0 nb m); clear nb m)
      | ((with_reducible refine Step.gate_build (t := 53) rfl ?_); refine Step.freshSlice (cs := #[.int .i64 2, .int .i64 4, .int .i64 8]) (T := 3) (n := 3) (m := 3) rfl ?hr ?_; (case hr => first | (go_simp; done) | (go_simp; rfl)); intro gs w1 b hg hb; replace ST := Lib.hid (ST.out.made b hg hb); clear b hg hb)
      | (go_at_call 25; (with_reducible refine (TP.out _).mono ?_); rintro e w' ⟨rfl, rfl⟩)
      | ((with_reducible refine Step.gate_load (t := 3) rfl ?_); refine Step.load ST.out.at0 rfl rfl rfl pl_int rfl ?_)
      | ((with_reducible refine Step.gate_store (t := 22) rfl ?_); refine Step.store ST.out.at1 rfl rfl rfl rfl rfl pl_u64 rfl rfl ?_; intro w3 nb m; simp [go_sem, set_x5] at nb; replace ST := Lib.hid (ST.out.set1 nb m); clear nb m)
      | ((with_reducible refine Step.gate_alloc (t := 44) rfl ?_); refine Step.freshAlloc rfl rfl (alloc_agg zero_inst) ?_; intro g10 w2 b hg hb; replace ST := Lib.hid (ST.out.made b hg hb); clear b hb hg)
      | ((with_reducible refine Step.gate_store (t := 44) rfl ?_); refine Step.storeAll ST.out.at0 rfl rfl rfl rfl rfl size_inst rfl rfl ?_; intro w3 nb m; replace ST := Lib.hid (ST.out.set0 nb m); clear nb m)
      | ((with_reducible refine Step.gate_load (t := 44) rfl ?_); refine Step.loadAll ST.out.at0 rfl rfl rfl Tryz.underlying44 rfl size_inst ?_)
      | (go_at_call 22; (with_reducible refine (one_ms8 _).mono ?_); rintro e w9 ⟨gc, gt, h1, h2, F1, F2, rfl, d⟩; replace ST := Lib.hid (DK.join ST.out d); clear d)
      | ((with_reducible refine Step.gate_alloc (t := 40) rfl ?_); refine Step.freshAlloc rfl rfl (Duo.alloc_agg Duo.zero_two) ?_; intro g13 w2 b hg hb; replace ST := Lib.hid (ST.out.made b hg hb); clear b hb hg)
      | ((with_reducible refine Step.gate_store (t := 40) rfl ?_); refine Step.storeAll (vs := #[.pointer (some ⟨h1, 0, none⟩), .pointer (some ⟨h2, 0, none⟩)]) ST.out.kn.at0 rfl rfl rfl rfl rfl size_two rfl rfl ?_; intro w3 nb m; replace ST := Lib.hid (ST.out.set (ST.out.kn.set0 nb m) m ⟨_, List.mem_of_getElem? (i := 0) rfl, rfl⟩ rfl); clear nb m)
      | ((with_reducible refine Step.gate_load (t := 25) rfl ?_); refine Step.loadAll ST.out.kn.at4 rfl rfl rfl Tryz.underlying25 rfl (size_hart _) ?_)
      | (go_at_call 23; (with_reducible refine (TS.out _ _ _ _ _ _ ST.out.core1).mono ?_); rintro e w10 ⟨rfl, F3, hk, m, hF⟩; replace ST := Lib.hid (ST.out.step1 hk m hF); clear hk m hF)
      | ((with_reducible refine Step.gate_alloc (t := 25) rfl ?_); refine Step.freshAlloc rfl rfl (alloc_agg zero_hart) ?_; intro g15 w2 b hg hb; replace ST := Lib.hid (ST.out.made b hg hb); clear b hb hg)
      | ((with_reducible refine Step.gate_alloc (t := 46) rfl ?_); refine Step.freshAlloc rfl rfl (alloc_agg zero_ev) ?_; intro g16 w2 b hg hb; replace ST := Lib.hid (ST.out.made b hg hb); clear b hb hg)
      | ((with_reducible refine Step.gate_store (t := 25) rfl ?_); refine Step.storeAll ST.out.kn.at1 rfl rfl rfl rfl rfl (size_hart _) rfl (hc_all _) ?_; intro w3 nb m; replace ST := Lib.hid (ST.out.set (ST.out.kn.set1 nb m) m ⟨_, List.mem_of_getElem? (i := 1) rfl, rfl⟩ rfl); clear nb m)
      | ((with_reducible refine Step.gate_store (t := 46) rfl ?_); refine Step.storeAll (vs := #[.int .i64 1, .int .i64 0, .int .u64 0, .int .u64 0, .bool false, .bool false]) ST.out.kn.at0 rfl rfl rfl rfl rfl size_ev rfl rfl ?_; intro w3 nb m; replace ST := Lib.hid (ST.out.set (ST.out.kn.set0 nb m) m ⟨_, List.mem_of_getElem? (i := 0) rfl, rfl⟩ rfl); clear nb m)
      | ((with_reducible refine Step.gate_load (t := 46) rfl ?_); refine Step.loadAll ST.out.kn.at0 rfl rfl rfl Tryz.underlying46 rfl size_ev ?_)
      | ((with_reducible refine Step.gate_load (t := 22) rfl ?_); refine Step.loadG ST.out.kn.at1 rfl rfl rfl pl_u64 r43 ?_)
      | ((with_reducible refine Step.gate_load (t := 22) rfl ?_); refine Step.loadG ST.out.kn.at1 rfl rfl rfl pl_u64 r44 ?_)
      | ((with_reducible refine Step.gate_load (t := 22) rfl ?_); refine Step.loadG ST.out.kn.at1 rfl rfl rfl pl_u64 r42 ?_)
      | ((with_reducible refine Step.gate_load (t := 23) rfl ?_); refine loadMidW ST.out.kn.at1 rfl rfl rfl rx1 Tryz.underlying23 rfl (size_arr _) ?_)
      | ((with_reducible refine Step.gate_load (t := 23) rfl ?_); refine loadMidW ST.out.kn.at5 rfl rfl rfl rx2 Tryz.underlying23 rfl (size_arr _) ?_)
      | ((with_reducible refine gate_bin (t := 23) rfl ?_); refine valueW (v := .bool true) rfl (eql_arr rfl rfl rfl _) ?_)
      | ((with_reducible refine Step.gate_load (t := 40) rfl ?_); refine loadAllW ST.out.kn.at2 rfl rfl rfl Tryz.underlying40 rfl size_two ?_)
      | (go_at_call 26; (with_reducible refine (same_dk ST.out).mono ?_); rintro e w' ⟨rfl, hb⟩; replace ST := Lib.hid (ST.out.call hb); clear hb)
      | (go_at_call 15; (with_reducible refine (awake_any _).mono ?_); rintro e w' ⟨rfl, hb⟩; replace ST := Lib.hid (ST.out.call hb); clear hb))
    all_goals go_ret
    all_goals exact ⟨rfl, ST.out.below⟩)
theorem mis_va (addr n : Int) (ha : U64 addr) (hn : n = 2 ∨ n = 4 ∨ n = 8) : ∃ va, U64 va ∧ ((addr % n = 0 ∧ va = addr + 1) ∨ (¬ addr % n = 0 ∧ va = addr)) := by
  have hh := ha.out
  by_cases hz : addr % n = 0
  · exact ⟨addr + 1, ⟨by omega, by rcases hn with rfl | rfl | rfl <;> omega⟩, .inl ⟨hz, rfl⟩⟩
  · exact ⟨addr, ha, .inr ⟨hz, rfl⟩⟩
theorem misaligned_any (h : Hrt) (hf : Fit h) (size addr : Int) (st : Bool) (hs : -9223372036854775808 ≤ size ∧ size < 9223372036854775808) (ha : U64 addr) (W : World) : Calls Tryz.prog 10 #[.agg (hc h), .int .i64 size, .int .u64 addr, .bool st] W fun e w' => e = .returned (.bool true) ∧ Below W.heap.size W w' := by
  have P : ∀ w q, size % 3 = q → Calls Tryz.prog 25 #[.int .i64 size, .int .i64 3] w fun e w' => e = .returned (.int .i64 q) ∧ w = w' := fun w q e => e ▸ Mem.place_any size 3 (by decide) hs (by decide) w
  rcases (show size % 3 = 0 ∨ size % 3 = 1 ∨ size % 3 = 2 by omega) with e | e | e
  · obtain ⟨va, hva, hz⟩ := mis_va addr 2 ha (by decide)
    have TP := Lib.hid (fun w => P w 0 e)
    cases st
    · exact mis_law_ml2 h hf size addr va TP ha hva hz W
    · exact mis_law_ms2 h hf size addr va TP ha hva hz W
  · obtain ⟨va, hva, hz⟩ := mis_va addr 4 ha (by decide)
    have TP := Lib.hid (fun w => P w 1 e)
    cases st
    · exact mis_law_ml4 h hf size addr va TP ha hva hz W
    · exact mis_law_ms4 h hf size addr va TP ha hva hz W
  · obtain ⟨va, hva, hz⟩ := mis_va addr 8 ha (by decide)
    have TP := Lib.hid (fun w => P w 2 e)
    cases st
    · exact mis_law_ml8 h hf size addr va TP ha hva hz W
    · exact mis_law_ms8 h hf size addr va TP ha hva hz W
end Go.Proofs.YthkodjkkcgdmfaaGreat.Hart
end
