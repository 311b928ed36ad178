/- Parts of the walks and laws for the claim: LawC, OpenH, RowC; no conditions beyond the theorems' own. -/
import Derived.Carry
import Derived.ChangeArms
import Derived.ChangeOld
import Derived.OpenShut
import Derived.ProofKit
import Derived.ShutString
import Derived.SizedLaws
import Derived.Test.YthkodjkkcgdmfaaGreatRows
import Derived.WalkKit
import Derived.Test.YthkodjkkcgdmfaaGreatR1
import Derived.Test.YthkodjkkcgdmfaaGreatR2
import Derived.Test.YthkodjkkcgdmfaaGreatR9
section
namespace Go.Proofs.YthkodjkkcgdmfaaGreat.Hart
open Go Go.RowKit Go.Proofs.YthkodjkkcgdmfaaGreat.Step Go.Proofs.YthkodjkkcgdmfaaGreat.Enc Go.Proofs.YthkodjkkcgdmfaaGreat.Kn
open Go.Proofs.YthkodjkkcgdmfaaGreat.Mem (Ram Grow hasB newB wholeB num wr Rd fl Arg lst)
open Go.Proofs.YthkodjkkcgdmfaaGreat.Duo (Duo RdC cm size_two)
set_option linter.unusedVariables false
set_option linter.unusedSimpArgs false
set_option maxRecDepth 100000
theorem no_cells (W : World) (G : Nat → Prop) : RdC W none 0 (fun _ => (0, 0)) G := fun i hi => absurd hi (Nat.not_lt_zero i)
theorem sret_w : wordP ⟨18, 0, 0, 0, 0, 0, 0, false⟩ = 270532723 := by kernel_rfl
theorem sret_d : dec 270532723 = some ⟨18, 0, 0, 0, 0, 0, 0, false⟩ := by kernel_rfl
theorem one_sret (W : World) : Calls Tryz.prog 22 #[.agg #[.int .i64 18, .int .i64 0, .int .i64 0, .int .i64 0, .int .i64 0, .int .i64 0, .int .i64 0, .bool false], .slice none 0 0] W fun e w' => ∃ gc gt h1 h2 F1 F2, e = .returned (.tuple #[.pointer (some ⟨gc, 0, none⟩), .agg #[.pointer (some ⟨h1, 0, none⟩), .pointer (some ⟨h2, 0, none⟩)], .bool true]) ∧ DK W w' h1 h2 2147483648 1 (wr (cm 1 (fun _ => (0, 0)) 0) 0 4 270532723) (wr (cm 1 (fun _ => (0, 0)) 0) 0 4 270532723) F1 F2 ((gc, ccg h1 (.pointer (some ⟨gt, 0, none⟩)) 0 0 0 0 (.map none), TC) :: (gt, #[.int .i64 1, .slice none 0 0], 115) :: []) := by
  have h := one_any W ⟨18, 0, 0, 0, 0, 0, 0, false⟩ (by unfold InR; decide) (by rw [sret_w]; exact ⟨by decide, by decide⟩) (by rw [sret_w]; exact sret_d) (Lib.hid (by rw [sret_w]; exact rDec_115_18)) none 0 0 (fun _ => (0, 0)) (no_cells _ _) (by decide)
  rw [sret_w] at h
  exact h
def retS (gc : Nat) (t : Hrt) : Stp := { decP (newS gc 0 (ord t)) 270532723 ⟨18, 0, 0, 0, 0, 0, 0, false⟩ with h := { (decP (newS gc 0 (ord t)) 270532723 ⟨18, 0, 0, 0, 0, 0, 0, false⟩).h with pc := (ord t).sepc, user := !t.spp, on := t.spie, spie := true, spp := false } }
def retH (t : Hrt) : Hrt := (zeroX (retS 0 t)).h
theorem step_ret {W : World} {gc gm : Nat} {tv : Value} {m0 : Nat → Int} {F : Nat → Prop} (hk : Kor W gc gm tv 0 2147483648 1 (wr m0 0 4 270532723) F) (t : Hrt) (hf : Fit t) (hpc : t.pc = 2147483648) (hsie : t.sie = 0) (hsat : t.satp = 0) (hu : t.user = false) :
    Calls Tryz.prog 23 #[.pointer (some ⟨gc, 0, none⟩), .agg (hc t), .int .u64 0] W fun e w' => e = .returned (.tuple #[.agg (hc (retH t)), .agg #[.int .i64 0, .int .i64 0, .int .u64 0, .int .u64 0, .bool false, .bool false]]) ∧ ∃ F', Kor w' gc gm tv 0 2147483648 1 (wr m0 0 4 270532723) F' ∧ Mod (fun k => k = gc ∨ F k) W w' ∧ ∀ k, F' k → F k ∨ W.heap.size ≤ k := by
  refine step_sret (s2 := retS gc t) hk t hf 0 hpc hsie hsat ⟨by decide, by decide⟩ sret_d (Lib.hid Dec_115_18) rfl fun W' gs r F' y => ?_
  refine (sret_false y.step (ord_fit hf) (⟨by decide, by decide⟩ : U64 270532723) hu).mono ?_
  rintro e w' ⟨rfl, nb, m⟩
  exact ⟨rfl, y.out.set nb m rfl⟩
set_option maxHeartbeats 8000000 in
theorem returns_any (h : Hrt) (hf : Fit h) (c v : Int) (hcc : U64 c) (hv : U64 v) (W : World) : Calls Tryz.prog 6 #[.agg (hc h), .int .u64 c, .int .u64 v] W fun e w' => e = .returned (.bool true) ∧ Below W.heap.size W w' := by
  have T1 := Lib.hid (trap_any h hf c v hcc hv)
  have p1 := hf.pc.out
  have q1 : IntKind.u64.wrap (h.pc / 2 * 2) = h.pc / 2 * 2 := IntWalk.u64_in _ (by omega)
  have hft : Fit (trg (ord h) c v) := trg_fit (ord_fit hf) hcc hv
  have t6 : (trg (ord h) c v).spp = !h.user := rfl
  have t7 : (trg (ord h) c v).spie = h.on := rfl
  have e0 : trg (ord h) c v = { trg (ord h) c v with user := false, on := false, sepc := h.pc / 2 * 2, scause := c, stval := v } := rfl
  rw [e0] at T1
  clear e0
  generalize trg (ord h) c v = t at T1 t6 t7 hft
  have hf2 : Fit { t with user := false, on := false, sepc := h.pc / 2 * 2, scause := c, stval := v, pc := 2147483648, sie := 0, satp := 0 } := ⟨hft.x, (⟨by decide, by decide⟩ : U64 2147483648), hft.stvec, hft.sscr, ⟨by show 0 ≤ h.pc / 2 * 2; omega, by show h.pc / 2 * 2 < 18446744073709551616; omega⟩, hcc, hv, (⟨by decide, by decide⟩ : U64 0), hft.sip, (⟨by decide, by decide⟩ : U64 0), hft.resv⟩
  obtain ⟨H2, eH⟩ : ∃ H, H = retH { t with user := false, on := false, sepc := h.pc / 2 * 2, scause := c, stval := v, pc := 2147483648, sie := 0, satp := 0 } := ⟨_, rfl⟩
  have r32 : (hc H2)[32]? = some (.int .u64 (h.pc / 2 * 2)) := by
    rw [eH]
    show some (Value.int .u64 (h.pc / 2 * 2 / 2 * 2)) = _
    rw [show h.pc / 2 * 2 / 2 * 2 = h.pc / 2 * 2 by omega]
  have r33 : (hc H2)[33]? = some (.bool h.user) := by
    rw [eH]
    show some (Value.bool (!t.spp)) = _
    rw [t6, Bool.not_not]
  have r34 : (hc H2)[34]? = some (.bool h.on) := by
    rw [eH]
    show some (Value.bool t.spie) = _
    rw [t7]
  have r35 : (hc H2)[35]? = some (.bool true) := by rw [eH]; rfl
  have r36 : (hc H2)[36]? = some (.bool false) := by rw [eH]; rfl
  have TS := Lib.hid (fun (X : World) (gc gm : Nat) (tv : Value) (m0 : Nat → Int) (F : Nat → Prop) (hk : Kor X gc gm tv 0 2147483648 1 (wr m0 0 4 270532723) F) => step_ret hk _ hf2 rfl rfl rfl rfl)
  rw [← eH] at TS
  clear hf hcc hv hft t6 t7 hf2 eH
  go_enter Tryz.func6, Tryz.ntmps6
  have ST := Lib.hid (Kn.nil (S := Step.Nil) (W := W))
  go_wp2_with (first
    | ((with_reducible refine Step.gate_box (t := 25) rfl ?_); refine Step.fresh (cs := hc h) (T := 25) rfl ?hr ?_; (case hr => first | (go_simp; done) | (go_simp; rfl)); intro g3 w1 b hg hb; replace ST := Lib.hid (ST.out.made b hg hb); clear b hb; clear hg)
    | ((with_reducible refine Step.gate_load (t := 4) rfl ?_); refine Step.load ST.out.at0 rfl rfl rfl pl_bool (hv_ok _ (by decide)) ?_; simp only [hv_x0, hv_pc, hv_user, hv_on, hv_spie, hv_spp, hv_sum, hv_mxr, hv_rsv, hv_stvec, hv_sscr, hv_sepc, hv_scause, hv_stval, hv_sie, hv_sip, hv_satp, hv_resv])
    | ((with_reducible refine Step.gate_load (t := 22) rfl ?_); refine Step.load ST.out.at0 rfl rfl rfl pl_u64 (hv_ok _ (by decide)) ?_; simp only [hv_x0, hv_pc, hv_user, hv_on, hv_spie, hv_spp, hv_sum, hv_mxr, hv_rsv, hv_stvec, hv_sscr, hv_sepc, hv_scause, hv_stval, hv_sie, hv_sip, hv_satp, hv_resv])
    | ((with_reducible refine Step.gate_load (t := 25) rfl ?_); refine Step.loadAll ST.out.at0 rfl rfl rfl Tryz.underlying25 rfl (size_hart _) ?_)
    | (go_at_call 13; (with_reducible refine (T1.out _).mono ?_); rintro e w' ⟨rfl, hb⟩; replace ST := Lib.hid (ST.out.call hb); clear hb)
    | ((with_reducible refine Step.gate_alloc (t := 25) rfl ?_); refine Step.freshAlloc rfl rfl (alloc_agg zero_hart) ?_; intro g10 w2 b hg hb; replace ST := Lib.hid (ST.out.made b hg hb); clear b hb; clear hg)
    | ((with_reducible refine Step.gate_store (t := 25) rfl ?_); refine Step.storeAll ST.out.at0 rfl rfl rfl rfl rfl (size_hart _) rfl (hc_all _) ?_; intro w3 nb m; replace ST := Lib.hid (ST.out.set0 nb m); clear nb m)
    | ((with_reducible refine Step.gate_load (t := 4) rfl ?_); refine Step.loadG ST.out.at0 rfl rfl rfl pl_bool (hv_ok _ (by decide)) ?_; simp only [hv_x0, hv_pc, hv_user, hv_on, hv_spie, hv_spp, hv_sum, hv_mxr, hv_rsv, hv_stvec, hv_sscr, hv_sepc, hv_scause, hv_stval, hv_sie, hv_sip, hv_satp, hv_resv])
    | ((with_reducible refine Step.gate_load (t := 22) rfl ?_); refine Step.loadG ST.out.at0 rfl rfl rfl pl_u64 (hv_ok _ (by decide)) ?_; simp only [hv_x0, hv_pc, hv_user, hv_on, hv_spie, hv_spp, hv_sum, hv_mxr, hv_rsv, hv_stvec, hv_sscr, hv_sepc, hv_scause, hv_stval, hv_sie, hv_sip, hv_satp, hv_resv])
    | (go_at_call 22; (with_reducible refine (one_sret _).mono ?_); rintro e w9 ⟨gc, gt, h1, h2, F1, F2, rfl, d⟩; replace ST := Lib.hid (DK.join ST.out d); clear d)
    | ((with_reducible refine Step.gate_alloc (t := 40) rfl ?_); refine Step.freshAlloc rfl rfl (Duo.alloc_agg Duo.zero_two) ?_; intro g12 w2 b hg hb; replace ST := Lib.hid (ST.out.made b hg hb); clear b hb hg)
    | ((with_reducible refine Step.gate_store (t := 40) rfl ?_); refine Step.storeAll (vs := #[.pointer (some ⟨h1, 0, none⟩), .pointer (some ⟨h2, 0, none⟩)]) ST.out.kn.at0 rfl rfl rfl rfl rfl size_two rfl rfl ?_; intro w3 nb m; replace ST := Lib.hid (ST.out.set (ST.out.kn.set0 nb m) m ⟨_, List.mem_of_getElem? (i := 0) rfl, rfl⟩ rfl); clear nb m)
    | ((with_reducible refine Step.gate_store (t := 22) rfl ?_); refine Step.store ST.out.kn.at3 rfl rfl rfl rfl rfl pl_u64 rfl rfl ?_; intro w3 nb m; simp [go_sem, set_x0, set_pc, set_user, set_on, set_spie, set_spp, set_sum, set_mxr, set_rsv, set_stvec, set_sscr, set_sepc, set_scause, set_stval, set_sie, set_sip, set_satp, set_resv] at nb; replace ST := Lib.hid (ST.out.set (ST.out.kn.set3 nb m) m ⟨_, List.mem_of_getElem? (i := 3) rfl, rfl⟩ rfl); clear nb m)
    | ((with_reducible refine Step.gate_load (t := 25) rfl ?_); refine Step.loadAll ST.out.kn.at3 rfl rfl rfl Tryz.underlying25 rfl (size_hart _) ?_)
    | (go_at_call 23; (with_reducible refine (TS.out _ _ _ _ _ _ ST.out.core1).mono ?_); rintro e w10 ⟨rfl, F3, hk, m, hF⟩; replace ST := Lib.hid (ST.out.step1 hk m hF); clear hk m hF)
    | ((with_reducible refine Step.gate_alloc (t := 25) rfl ?_); refine Step.freshAlloc rfl rfl (alloc_agg zero_hart) ?_; intro g14 w2 b hg hb; replace ST := Lib.hid (ST.out.made b hg hb); clear b hb hg)
    | ((with_reducible refine Step.gate_alloc (t := 46) rfl ?_); refine Step.freshAlloc rfl rfl (alloc_agg zero_ev) ?_; intro g15 w2 b hg hb; replace ST := Lib.hid (ST.out.made b hg hb); clear b hb hg)
    | ((with_reducible refine Step.gate_store (t := 25) rfl ?_); refine Step.storeAll ST.out.kn.at1 rfl rfl rfl rfl rfl (size_hart _) rfl (hc_all _) ?_; intro w3 nb m; replace ST := Lib.hid (ST.out.set (ST.out.kn.set1 nb m) m ⟨_, List.mem_of_getElem? (i := 1) rfl, rfl⟩ rfl); clear nb m)
    | ((with_reducible refine Step.gate_store (t := 46) rfl ?_); refine Step.storeAll (vs := #[.int .i64 0, .int .i64 0, .int .u64 0, .int .u64 0, .bool false, .bool false]) ST.out.kn.at0 rfl rfl rfl rfl rfl size_ev rfl rfl ?_; intro w3 nb m; replace ST := Lib.hid (ST.out.set (ST.out.kn.set0 nb m) m ⟨_, List.mem_of_getElem? (i := 0) rfl, rfl⟩ rfl); clear nb m)
    | ((with_reducible refine Step.gate_load (t := 46) rfl ?_); refine Step.loadAll ST.out.kn.at0 rfl rfl rfl Tryz.underlying46 rfl size_ev ?_)
    | ((with_reducible refine Step.gate_load (t := 22) rfl ?_); refine Step.loadG ST.out.kn.at1 rfl rfl rfl pl_u64 r32 ?_)
    | ((with_reducible refine Step.gate_load (t := 4) rfl ?_); refine Step.loadG ST.out.kn.at1 rfl rfl rfl pl_bool r33 ?_)
    | ((with_reducible refine Step.gate_load (t := 4) rfl ?_); refine Step.loadG ST.out.kn.at1 rfl rfl rfl pl_bool r34 ?_)
    | ((with_reducible refine Step.gate_load (t := 4) rfl ?_); refine Step.loadG ST.out.kn.at1 rfl rfl rfl pl_bool r35 ?_)
    | ((with_reducible refine Step.gate_load (t := 4) rfl ?_); refine Step.loadG ST.out.kn.at1 rfl rfl rfl pl_bool r36 ?_)
    | (go_at_call 15; (with_reducible refine (awake_any _).mono ?_); rintro e w' ⟨rfl, hb⟩; replace ST := Lib.hid (ST.out.call hb); clear hb))
  all_goals go_ret
  all_goals exact ⟨rfl, ST.out.below⟩
end Go.Proofs.YthkodjkkcgdmfaaGreat.Hart
end
section
namespace Go.Proofs.YthkodjkkcgdmfaaGreat.Hart
open Go Go.RowKit Go.ChangeShapes Go.WideShapes Go.ChangeAt
set_option linter.unusedVariables false
set_option linter.unusedSimpArgs false
set_option maxRecDepth 100000
section
variable {H : Type} {enc : TypeId × Value → H} {W : World} {base : Nat} {sp : Nat → Bool} {held : Bool}
theorem co_u64 : Tryz.prog.cellsOf 22 = 1 := by kernel_rfl
theorem co_bool : Tryz.prog.cellsOf 4 = 1 := by kernel_rfl
theorem co_arr : Tryz.prog.cellsOf 23 = 32 := by kernel_rfl
theorem co_hart : Tryz.prog.cellsOf 25 = 49 := by kernel_rfl
theorem bd_u64 {v : Int} (h : (Lit.int .u64 v).wf = true) : U64 v := by have := bounds_u64 h; exact ⟨by omega, by omega⟩
set_option maxHeartbeats 8000000 in
theorem open_hart {r : Reach} {b0 : Nat} {v : Value} {d : DataW H} {ps : List MemPlace} (hval : Value.okWide Tryz.prog W r b0 25 v) (h : DataW.Trod enc Tryz.prog W base sp held 25 v d ps) :
    ∃ h : Hrt, v = .agg (hc h) ∧ Fit h := by
  simp only [Value.okWide, Tryz.underlying25] at hval
  obtain ⟨cs, rfl, hsz, _⟩ := hval
  rw [co_hart] at hsz
  obtain ⟨l⟩ := cs
  obtain ⟨fuel, hf⟩ := h
  match l, hsz with
  | a0 :: a1 :: a2 :: a3 :: a4 :: a5 :: a6 :: a7 :: a8 :: a9 :: a10 :: a11 :: a12 :: a13 :: a14 :: a15 :: a16 :: a17 :: a18 :: a19 :: a20 :: a21 :: a22 :: a23 :: a24 :: a25 :: a26 :: a27 :: a28 :: a29 :: a30 :: a31 :: a32 :: a33 :: a34 :: a35 :: a36 :: a37 :: a38 :: a39 :: a40 :: a41 :: a42 :: a43 :: a44 :: a45 :: a46 :: a47 :: a48 :: [], _ =>
    obtain ⟨xs, n, _, _, _, hxl, hfl⟩ := DataW.trod_struct Tryz.underlying25 hf
    match xs, hxl with
    | [y0, y1, y2, y3, y4, y5, y6, y7, y8, y9, y10, y11, y12, y13, y14, y15, y16, y17], _ =>
      have gA : DataW.trod enc Tryz.prog W base sp held n 23 [a0, a1, a2, a3, a4, a5, a6, a7, a8, a9, a10, a11, a12, a13, a14, a15, a16, a17, a18, a19, a20, a21, a22, a23, a24, a25, a26, a27, a28, a29, a30, a31] = some y0 := by simpa [co_arr, co_u64, co_bool, Value.cells] using hfl 0 _ rfl
      obtain ⟨xs2, m, _, _, _, hx2, hal⟩ := DataW.trod_array Tryz.underlying23 gA
      match xs2, hx2 with
      | z0 :: z1 :: z2 :: z3 :: z4 :: z5 :: z6 :: z7 :: z8 :: z9 :: z10 :: z11 :: z12 :: z13 :: z14 :: z15 :: z16 :: z17 :: z18 :: z19 :: z20 :: z21 :: z22 :: z23 :: z24 :: z25 :: z26 :: z27 :: z28 :: z29 :: z30 :: z31 :: [], _ =>
        have g0 : DataW.trod enc Tryz.prog W base sp held m 22 [a0] = some z0 := by simpa [co_u64] using hal 0 (by decide)
        have g1 : DataW.trod enc Tryz.prog W base sp held m 22 [a1] = some z1 := by simpa [co_u64] using hal 1 (by decide)
        have g2 : DataW.trod enc Tryz.prog W base sp held m 22 [a2] = some z2 := by simpa [co_u64] using hal 2 (by decide)
        have g3 : DataW.trod enc Tryz.prog W base sp held m 22 [a3] = some z3 := by simpa [co_u64] using hal 3 (by decide)
        have g4 : DataW.trod enc Tryz.prog W base sp held m 22 [a4] = some z4 := by simpa [co_u64] using hal 4 (by decide)
        have g5 : DataW.trod enc Tryz.prog W base sp held m 22 [a5] = some z5 := by simpa [co_u64] using hal 5 (by decide)
        have g6 : DataW.trod enc Tryz.prog W base sp held m 22 [a6] = some z6 := by simpa [co_u64] using hal 6 (by decide)
        have g7 : DataW.trod enc Tryz.prog W base sp held m 22 [a7] = some z7 := by simpa [co_u64] using hal 7 (by decide)
        have g8 : DataW.trod enc Tryz.prog W base sp held m 22 [a8] = some z8 := by simpa [co_u64] using hal 8 (by decide)
        have g9 : DataW.trod enc Tryz.prog W base sp held m 22 [a9] = some z9 := by simpa [co_u64] using hal 9 (by decide)
        have g10 : DataW.trod enc Tryz.prog W base sp held m 22 [a10] = some z10 := by simpa [co_u64] using hal 10 (by decide)
        have g11 : DataW.trod enc Tryz.prog W base sp held m 22 [a11] = some z11 := by simpa [co_u64] using hal 11 (by decide)
        have g12 : DataW.trod enc Tryz.prog W base sp held m 22 [a12] = some z12 := by simpa [co_u64] using hal 12 (by decide)
        have g13 : DataW.trod enc Tryz.prog W base sp held m 22 [a13] = some z13 := by simpa [co_u64] using hal 13 (by decide)
        have g14 : DataW.trod enc Tryz.prog W base sp held m 22 [a14] = some z14 := by simpa [co_u64] using hal 14 (by decide)
        have g15 : DataW.trod enc Tryz.prog W base sp held m 22 [a15] = some z15 := by simpa [co_u64] using hal 15 (by decide)
        have g16 : DataW.trod enc Tryz.prog W base sp held m 22 [a16] = some z16 := by simpa [co_u64] using hal 16 (by decide)
        have g17 : DataW.trod enc Tryz.prog W base sp held m 22 [a17] = some z17 := by simpa [co_u64] using hal 17 (by decide)
        have g18 : DataW.trod enc Tryz.prog W base sp held m 22 [a18] = some z18 := by simpa [co_u64] using hal 18 (by decide)
        have g19 : DataW.trod enc Tryz.prog W base sp held m 22 [a19] = some z19 := by simpa [co_u64] using hal 19 (by decide)
        have g20 : DataW.trod enc Tryz.prog W base sp held m 22 [a20] = some z20 := by simpa [co_u64] using hal 20 (by decide)
        have g21 : DataW.trod enc Tryz.prog W base sp held m 22 [a21] = some z21 := by simpa [co_u64] using hal 21 (by decide)
        have g22 : DataW.trod enc Tryz.prog W base sp held m 22 [a22] = some z22 := by simpa [co_u64] using hal 22 (by decide)
        have g23 : DataW.trod enc Tryz.prog W base sp held m 22 [a23] = some z23 := by simpa [co_u64] using hal 23 (by decide)
        have g24 : DataW.trod enc Tryz.prog W base sp held m 22 [a24] = some z24 := by simpa [co_u64] using hal 24 (by decide)
        have g25 : DataW.trod enc Tryz.prog W base sp held m 22 [a25] = some z25 := by simpa [co_u64] using hal 25 (by decide)
        have g26 : DataW.trod enc Tryz.prog W base sp held m 22 [a26] = some z26 := by simpa [co_u64] using hal 26 (by decide)
        have g27 : DataW.trod enc Tryz.prog W base sp held m 22 [a27] = some z27 := by simpa [co_u64] using hal 27 (by decide)
        have g28 : DataW.trod enc Tryz.prog W base sp held m 22 [a28] = some z28 := by simpa [co_u64] using hal 28 (by decide)
        have g29 : DataW.trod enc Tryz.prog W base sp held m 22 [a29] = some z29 := by simpa [co_u64] using hal 29 (by decide)
        have g30 : DataW.trod enc Tryz.prog W base sp held m 22 [a30] = some z30 := by simpa [co_u64] using hal 30 (by decide)
        have g31 : DataW.trod enc Tryz.prog W base sp held m 22 [a31] = some z31 := by simpa [co_u64] using hal 31 (by decide)
        have g32 : DataW.trod enc Tryz.prog W base sp held n 22 [a32] = some y1 := by simpa [co_u64, co_bool, Value.cells] using hfl 1 _ rfl
        have g33 : DataW.trod enc Tryz.prog W base sp held n 4 [a33] = some y2 := by simpa [co_u64, co_bool, Value.cells] using hfl 2 _ rfl
        have g34 : DataW.trod enc Tryz.prog W base sp held n 4 [a34] = some y3 := by simpa [co_u64, co_bool, Value.cells] using hfl 3 _ rfl
        have g35 : DataW.trod enc Tryz.prog W base sp held n 4 [a35] = some y4 := by simpa [co_u64, co_bool, Value.cells] using hfl 4 _ rfl
        have g36 : DataW.trod enc Tryz.prog W base sp held n 4 [a36] = some y5 := by simpa [co_u64, co_bool, Value.cells] using hfl 5 _ rfl
        have g37 : DataW.trod enc Tryz.prog W base sp held n 4 [a37] = some y6 := by simpa [co_u64, co_bool, Value.cells] using hfl 6 _ rfl
        have g38 : DataW.trod enc Tryz.prog W base sp held n 4 [a38] = some y7 := by simpa [co_u64, co_bool, Value.cells] using hfl 7 _ rfl
        have g39 : DataW.trod enc Tryz.prog W base sp held n 4 [a39] = some y8 := by simpa [co_u64, co_bool, Value.cells] using hfl 8 _ rfl
        have g40 : DataW.trod enc Tryz.prog W base sp held n 22 [a40] = some y9 := by simpa [co_u64, co_bool, Value.cells] using hfl 9 _ rfl
        have g41 : DataW.trod enc Tryz.prog W base sp held n 22 [a41] = some y10 := by simpa [co_u64, co_bool, Value.cells] using hfl 10 _ rfl
        have g42 : DataW.trod enc Tryz.prog W base sp held n 22 [a42] = some y11 := by simpa [co_u64, co_bool, Value.cells] using hfl 11 _ rfl
        have g43 : DataW.trod enc Tryz.prog W base sp held n 22 [a43] = some y12 := by simpa [co_u64, co_bool, Value.cells] using hfl 12 _ rfl
        have g44 : DataW.trod enc Tryz.prog W base sp held n 22 [a44] = some y13 := by simpa [co_u64, co_bool, Value.cells] using hfl 13 _ rfl
        have g45 : DataW.trod enc Tryz.prog W base sp held n 22 [a45] = some y14 := by simpa [co_u64, co_bool, Value.cells] using hfl 14 _ rfl
        have g46 : DataW.trod enc Tryz.prog W base sp held n 22 [a46] = some y15 := by simpa [co_u64, co_bool, Value.cells] using hfl 15 _ rfl
        have g47 : DataW.trod enc Tryz.prog W base sp held n 22 [a47] = some y16 := by simpa [co_u64, co_bool, Value.cells] using hfl 16 _ rfl
        have g48 : DataW.trod enc Tryz.prog W base sp held n 22 [a48] = some y17 := by simpa [co_u64, co_bool, Value.cells] using hfl 17 _ rfl
        obtain ⟨n0, e0, _, w0⟩ := DataW.trod_int Tryz.underlying22 g0
        obtain ⟨n1, e1, _, w1⟩ := DataW.trod_int Tryz.underlying22 g1
        obtain ⟨n2, e2, _, w2⟩ := DataW.trod_int Tryz.underlying22 g2
        obtain ⟨n3, e3, _, w3⟩ := DataW.trod_int Tryz.underlying22 g3
        obtain ⟨n4, e4, _, w4⟩ := DataW.trod_int Tryz.underlying22 g4
        obtain ⟨n5, e5, _, w5⟩ := DataW.trod_int Tryz.underlying22 g5
        obtain ⟨n6, e6, _, w6⟩ := DataW.trod_int Tryz.underlying22 g6
        obtain ⟨n7, e7, _, w7⟩ := DataW.trod_int Tryz.underlying22 g7
        obtain ⟨n8, e8, _, w8⟩ := DataW.trod_int Tryz.underlying22 g8
        obtain ⟨n9, e9, _, w9⟩ := DataW.trod_int Tryz.underlying22 g9
        obtain ⟨n10, e10, _, w10⟩ := DataW.trod_int Tryz.underlying22 g10
        obtain ⟨n11, e11, _, w11⟩ := DataW.trod_int Tryz.underlying22 g11
        obtain ⟨n12, e12, _, w12⟩ := DataW.trod_int Tryz.underlying22 g12
        obtain ⟨n13, e13, _, w13⟩ := DataW.trod_int Tryz.underlying22 g13
        obtain ⟨n14, e14, _, w14⟩ := DataW.trod_int Tryz.underlying22 g14
        obtain ⟨n15, e15, _, w15⟩ := DataW.trod_int Tryz.underlying22 g15
        obtain ⟨n16, e16, _, w16⟩ := DataW.trod_int Tryz.underlying22 g16
        obtain ⟨n17, e17, _, w17⟩ := DataW.trod_int Tryz.underlying22 g17
        obtain ⟨n18, e18, _, w18⟩ := DataW.trod_int Tryz.underlying22 g18
        obtain ⟨n19, e19, _, w19⟩ := DataW.trod_int Tryz.underlying22 g19
        obtain ⟨n20, e20, _, w20⟩ := DataW.trod_int Tryz.underlying22 g20
        obtain ⟨n21, e21, _, w21⟩ := DataW.trod_int Tryz.underlying22 g21
        obtain ⟨n22, e22, _, w22⟩ := DataW.trod_int Tryz.underlying22 g22
        obtain ⟨n23, e23, _, w23⟩ := DataW.trod_int Tryz.underlying22 g23
        obtain ⟨n24, e24, _, w24⟩ := DataW.trod_int Tryz.underlying22 g24
        obtain ⟨n25, e25, _, w25⟩ := DataW.trod_int Tryz.underlying22 g25
        obtain ⟨n26, e26, _, w26⟩ := DataW.trod_int Tryz.underlying22 g26
        obtain ⟨n27, e27, _, w27⟩ := DataW.trod_int Tryz.underlying22 g27
        obtain ⟨n28, e28, _, w28⟩ := DataW.trod_int Tryz.underlying22 g28
        obtain ⟨n29, e29, _, w29⟩ := DataW.trod_int Tryz.underlying22 g29
        obtain ⟨n30, e30, _, w30⟩ := DataW.trod_int Tryz.underlying22 g30
        obtain ⟨n31, e31, _, w31⟩ := DataW.trod_int Tryz.underlying22 g31
        obtain ⟨n32, e32, _, w32⟩ := DataW.trod_int Tryz.underlying22 g32
        obtain ⟨n33, e33, _⟩ := DataW.trod_bool Tryz.underlying4 g33
        obtain ⟨n34, e34, _⟩ := DataW.trod_bool Tryz.underlying4 g34
        obtain ⟨n35, e35, _⟩ := DataW.trod_bool Tryz.underlying4 g35
        obtain ⟨n36, e36, _⟩ := DataW.trod_bool Tryz.underlying4 g36
        obtain ⟨n37, e37, _⟩ := DataW.trod_bool Tryz.underlying4 g37
        obtain ⟨n38, e38, _⟩ := DataW.trod_bool Tryz.underlying4 g38
        obtain ⟨n39, e39, _⟩ := DataW.trod_bool Tryz.underlying4 g39
        obtain ⟨n40, e40, _, w40⟩ := DataW.trod_int Tryz.underlying22 g40
        obtain ⟨n41, e41, _, w41⟩ := DataW.trod_int Tryz.underlying22 g41
        obtain ⟨n42, e42, _, w42⟩ := DataW.trod_int Tryz.underlying22 g42
        obtain ⟨n43, e43, _, w43⟩ := DataW.trod_int Tryz.underlying22 g43
        obtain ⟨n44, e44, _, w44⟩ := DataW.trod_int Tryz.underlying22 g44
        obtain ⟨n45, e45, _, w45⟩ := DataW.trod_int Tryz.underlying22 g45
        obtain ⟨n46, e46, _, w46⟩ := DataW.trod_int Tryz.underlying22 g46
        obtain ⟨n47, e47, _, w47⟩ := DataW.trod_int Tryz.underlying22 g47
        obtain ⟨n48, e48, _, w48⟩ := DataW.trod_int Tryz.underlying22 g48
        simp only [List.cons.injEq, and_true] at e0 e1 e2 e3 e4 e5 e6 e7 e8 e9 e10 e11 e12 e13 e14 e15 e16 e17 e18 e19 e20 e21 e22 e23 e24 e25 e26 e27 e28 e29 e30 e31 e32 e33 e34 e35 e36 e37 e38 e39 e40 e41 e42 e43 e44 e45 e46 e47 e48
        subst e0 e1 e2 e3 e4 e5 e6 e7 e8 e9 e10 e11 e12 e13 e14 e15 e16 e17 e18 e19 e20 e21 e22 e23 e24 e25 e26 e27 e28 e29 e30 e31 e32 e33 e34 e35 e36 e37 e38 e39 e40 e41 e42 e43 e44 e45 e46 e47 e48
        refine ⟨{ x := fun k => match k with | 0 => n0 | 1 => n1 | 2 => n2 | 3 => n3 | 4 => n4 | 5 => n5 | 6 => n6 | 7 => n7 | 8 => n8 | 9 => n9 | 10 => n10 | 11 => n11 | 12 => n12 | 13 => n13 | 14 => n14 | 15 => n15 | 16 => n16 | 17 => n17 | 18 => n18 | 19 => n19 | 20 => n20 | 21 => n21 | 22 => n22 | 23 => n23 | 24 => n24 | 25 => n25 | 26 => n26 | 27 => n27 | 28 => n28 | 29 => n29 | 30 => n30 | 31 => n31 | _ => 0, pc := n32, user := n33, on := n34, spie := n35, spp := n36, sum := n37, mxr := n38, rsv := n39, stvec := n40, sscr := n41, sepc := n42, scause := n43, stval := n44, sie := n45, sip := n46, satp := n47, resv := n48 }, rfl, fun i hi => ?_, bd_u64 w32, bd_u64 w40, bd_u64 w41, bd_u64 w42, bd_u64 w43, bd_u64 w44, bd_u64 w45, bd_u64 w46, bd_u64 w47, bd_u64 w48⟩
        obtain h1 | h1 | h1 | h1 | h1 | h1 | h1 | h1 | h1 | h1 | h1 | h1 | h1 | h1 | h1 | h1 | h1 | h1 | h1 | h1 | h1 | h1 | h1 | h1 | h1 | h1 | h1 | h1 | h1 | h1 | h1 | h1 : i = 0 ∨ i = 1 ∨ i = 2 ∨ i = 3 ∨ i = 4 ∨ i = 5 ∨ i = 6 ∨ i = 7 ∨ i = 8 ∨ i = 9 ∨ i = 10 ∨ i = 11 ∨ i = 12 ∨ i = 13 ∨ i = 14 ∨ i = 15 ∨ i = 16 ∨ i = 17 ∨ i = 18 ∨ i = 19 ∨ i = 20 ∨ i = 21 ∨ i = 22 ∨ i = 23 ∨ i = 24 ∨ i = 25 ∨ i = 26 ∨ i = 27 ∨ i = 28 ∨ i = 29 ∨ i = 30 ∨ i = 31 := by omega
        · subst h1; exact bd_u64 w0
        · subst h1; exact bd_u64 w1
        · subst h1; exact bd_u64 w2
        · subst h1; exact bd_u64 w3
        · subst h1; exact bd_u64 w4
        · subst h1; exact bd_u64 w5
        · subst h1; exact bd_u64 w6
        · subst h1; exact bd_u64 w7
        · subst h1; exact bd_u64 w8
        · subst h1; exact bd_u64 w9
        · subst h1; exact bd_u64 w10
        · subst h1; exact bd_u64 w11
        · subst h1; exact bd_u64 w12
        · subst h1; exact bd_u64 w13
        · subst h1; exact bd_u64 w14
        · subst h1; exact bd_u64 w15
        · subst h1; exact bd_u64 w16
        · subst h1; exact bd_u64 w17
        · subst h1; exact bd_u64 w18
        · subst h1; exact bd_u64 w19
        · subst h1; exact bd_u64 w20
        · subst h1; exact bd_u64 w21
        · subst h1; exact bd_u64 w22
        · subst h1; exact bd_u64 w23
        · subst h1; exact bd_u64 w24
        · subst h1; exact bd_u64 w25
        · subst h1; exact bd_u64 w26
        · subst h1; exact bd_u64 w27
        · subst h1; exact bd_u64 w28
        · subst h1; exact bd_u64 w29
        · subst h1; exact bd_u64 w30
        · subst h1; exact bd_u64 w31
end
end Go.Proofs.YthkodjkkcgdmfaaGreat.Hart
end
section
namespace Go.Proofs.YthkodjkkcgdmfaaGreat.Hart
open Go Go.RowKit Go.Proofs.YthkodjkkcgdmfaaGreat.Step
set_option linter.unusedVariables false
theorem returns_row (h : Hrt) (c v : Int) (W : World) (hf : Fit h) (hc' : (Lit.int .u64 c).wf = true) (hv : (Lit.int .u64 v).wf = true) : Calls Tryz.prog 6 #[.agg (Hart.hc h), .int .u64 c, .int .u64 v] W fun e w' => e = .returned (.bool true) ∧ Below W.heap.size W w' :=
  returns_any h hf c v (bd_u64 hc') (bd_u64 hv) W
end Go.Proofs.YthkodjkkcgdmfaaGreat.Hart
end
