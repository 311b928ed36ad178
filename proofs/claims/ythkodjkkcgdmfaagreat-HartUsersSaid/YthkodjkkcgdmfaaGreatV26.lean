/- Parts of the walks and laws for the claim: LawG; no conditions beyond the theorems' own. -/
import Derived.Test.YthkodjkkcgdmfaaGreatV22
import Derived.Test.YthkodjkkcgdmfaaGreatV25
section
namespace Go.Proofs.YthkodjkkcgdmfaaGreat.Hart
open Go Go.RowKit Go.Proofs.YthkodjkkcgdmfaaGreat.Step Go.Proofs.YthkodjkkcgdmfaaGreat.Enc Go.Proofs.YthkodjkkcgdmfaaGreat.Kn
open Go.Proofs.YthkodjkkcgdmfaaGreat.Mem (Ram Grow hasB newB wholeB num wr Rd fl Arg lst)
open Go.Proofs.YthkodjkkcgdmfaaGreat.Duo (Duo RdC cm size_two)
set_option linter.unusedVariables false
set_option linter.unusedSimpArgs false
set_option maxRecDepth 100000
/-- A hart that has trapped at its load or store. -/
def misH (C : Hrt) (c va : Int) : Hrt := { trg (ord (ord C)) c va with x := xup (trg (ord (ord C)) c va).x 0 0 }
theorem mis_x {C : Hrt} (h0 : C.x 0 = 0) (c va : Int) : (misH C c va).x = C.x := by
  show xup (xup (xup C.x 0 0) 0 0) 0 0 = C.x
  rw [xup_zero h0, xup_zero h0, xup_zero h0]
/-- The word of a register's reading and writing. -/
def csrU (fn rs1 imm : Int) : Int := 1267 + fn * 4096 + rs1 * 32768 + imm * 1048576
theorem csr_word (fn rs1 imm : Int) (hf : 1 ≤ fn ∧ fn ≤ 3) (h1 : 0 ≤ rs1 ∧ rs1 < 32) (hi : 0 ≤ imm ∧ imm < 4096) : W32 (csrU fn rs1 imm) ∧ fd (csrU fn rs1 imm) 6 0 = 115 ∧ (csrU fn rs1 imm ≠ 115 ∧ csrU fn rs1 imm ≠ 1048691 ∧ csrU fn rs1 imm ≠ 270532723 ∧ csrU fn rs1 imm ≠ 273678451) ∧ (¬ fd (csrU fn rs1 imm) 14 12 = 0) ∧ dec (csrU fn rs1 imm) = some ⟨13, fn, 9, rs1, 0, imm, 0, false⟩ := by
  obtain ⟨a, ha⟩ : ∃ a, a = csrU fn rs1 imm := ⟨_, rfl⟩
  rw [← ha]
  unfold csrU at ha
  have e0 : fd a 6 0 = 115 := by rw [fd_of (n := 1) (m := 128) rfl rfl]; omega
  have e1 : fd a 11 7 = 9 := by rw [fd_of (n := 128) (m := 32) rfl rfl]; omega
  have e2 : fd a 14 12 = fn := by rw [fd_of (n := 4096) (m := 8) rfl rfl]; omega
  have e3 : fd a 19 15 = rs1 := by rw [fd_of (n := 32768) (m := 32) rfl rfl]; omega
  have e4 : fd a 31 20 = imm := by rw [fd_of (n := 1048576) (m := 4096) rfl rfl]; omega
  have n0 : a ≠ 115 := by omega
  have n1 : a ≠ 1048691 := by omega
  have n2 : a ≠ 270532723 := by omega
  have n3 : a ≠ 273678451 := by omega
  refine ⟨⟨by omega, by omega⟩, e0, ⟨n0, n1, n2, n3⟩, by rw [e2]; omega, ?_⟩
  unfold dec
  rw [e0]
  have hd : decOp 115 a = sysD a := by simp [decOp]
  rw [hd]
  unfold sysD
  rw [if_neg n0, if_neg n1, if_neg n2, if_neg n3, e1, e2, e3, e4, if_neg (by omega)]
  rcases (show fn = 1 ∨ fn = 2 ∨ fn = 3 by omega) with rfl | rfl | rfl
  · rw [if_neg (by decide), show pk csL 1 = 1 by decide]; rfl
  · rw [if_neg (by decide), show pk csL 2 = 2 by decide]; rfl
  · rw [if_neg (by decide), show pk csL 3 = 3 by decide]; rfl
theorem csr_wordP {fn rs1 imm : Int} (hf : 1 ≤ fn ∧ fn ≤ 3) (h1 : 0 ≤ rs1 ∧ rs1 < 32) (hi : 0 ≤ imm ∧ imm < 4096) : wordP ⟨13, fn, 9, rs1, 0, imm, 0, false⟩ = csrU fn rs1 imm := by
  obtain ⟨hw, ho, _, _, hd⟩ := csr_word fn rs1 imm hf h1 hi
  rw [word_enc hw hd, enc_dec hw hd]
  exact cn_eq ho (by decide) (by decide)
set_option maxHeartbeats 1000000 in
theorem csr_user {W : World} {g : Nat} {s : Stp} (hb : Blk W g (sc s) TS) {n1 : Nat} (hr : s.rs1 = n1) (hn : n1 < 32) (TCH : Hid (∀ W' : World, Blk W' g (sc s) TS → Calls Tryz.prog 131 #[.pointer (some ⟨g, 0, none⟩), .int .u64 (s.was.x n1)] W' fun e w' => e = .returned (.tuple #[]) ∧ Blk w' g (sc (trapP s 2 s.bits)) TS ∧ Mod (One g) W' w')) :
    Calls Tryz.prog 99 #[.pointer (some ⟨g, 0, none⟩)] W fun e w' => e = .returned (.tuple #[]) ∧ Blk w' g (sc (trapP s 2 s.bits)) TS ∧ Mod (One g) W w' := by
  have TX := Lib.hid (fun (W' : World) (hb : Blk W' g (sc s) TS) => x_any hb hr hn)
  have ST := Lib.hid (Kn.start (S := One g) hb rfl)
  clear hb
  go_enter Tryz.func99, Tryz.ntmps99
  go_wp2_with (first
    | (go_at_call 122; (with_reducible refine (TX.out _ ST.out.at0).mono ?_); rintro e w' ⟨rfl, hb⟩; replace ST := Lib.hid (ST.out.call hb); clear hb)
    | (go_at_call 131; (with_reducible refine (TCH.out _ ST.out.at0).mono ?_); rintro e w' ⟨rfl, nb, m⟩; replace ST := Lib.hid (ST.out.set0 nb m); clear nb m))
  all_goals (first | go_ret | go_end0 | refine bodyPost_ret (results_none rfl _ _ _) rfl ?_)
  all_goals exact ⟨rfl, ST.out.at0, ST.out.mod⟩
theorem ur_w : wordP ⟨18, 0, 0, 0, 0, 0, 0, false⟩ = 270532723 := by kernel_rfl
theorem ur_d : dec 270532723 = some ⟨18, 0, 0, 0, 0, 0, 0, false⟩ := by kernel_rfl
theorem one_ur (W : World) : Calls Tryz.prog 22 #[.agg #[.int .i64 18, .int .i64 0, .int .i64 0, .int .i64 0, .int .i64 0, .int .i64 0, .int .i64 0, .bool false], .slice none 0 0] W fun e w' => ∃ gc gt h1 h2 F1 F2, e = .returned (.tuple #[.pointer (some ⟨gc, 0, none⟩), .agg #[.pointer (some ⟨h1, 0, none⟩), .pointer (some ⟨h2, 0, none⟩)], .bool true]) ∧ DK W w' h1 h2 2147483648 1 (wr (cm 1 (fun _ => (0, 0)) 0) 0 4 270532723) (wr (cm 1 (fun _ => (0, 0)) 0) 0 4 270532723) F1 F2 ((gc, ccg h1 (.pointer (some ⟨gt, 0, none⟩)) 0 0 0 0 (.map none), TC) :: []) := by
  have h := one_any W ⟨18, 0, 0, 0, 0, 0, 0, false⟩ (by unfold InR; decide) (by rw [ur_w]; exact ⟨by decide, by decide⟩) (by rw [ur_w]; exact ur_d) (Lib.hid (by rw [ur_w]; exact rDec_115_18)) none 0 0 (fun _ => (0, 0)) (no_cells _ _) (by decide)
  rw [ur_w] at h
  refine h.mono fun e w' q => ?_
  obtain ⟨gc, gt, h1, h2, F1, F2, rfl, d⟩ := q
  exact ⟨gc, gt, h1, h2, F1, F2, rfl, d.solo⟩
theorem enc_ur (W : World) : Calls Tryz.prog 27 #[.agg #[.int .i64 18, .int .i64 0, .int .i64 0, .int .i64 0, .int .i64 0, .int .i64 0, .int .i64 0, .bool false]] W fun e w' => e = .returned (.tuple #[.int .u32 270532723, .bool true]) ∧ Below W.heap.size W w' := by
  have hi : InR ⟨18, 0, 0, 0, 0, 0, 0, false⟩ := by unfold InR; decide
  have hw := ur_w
  have h := rEncode_at ⟨18, 0, 0, 0, 0, 0, 0, false⟩ 270532723 hi ⟨by decide, by decide⟩ ur_d (Lib.hid rDec_115_18) (Lib.hid (by rw [← hw]; exact word_at _ hi)) W
  exact h
theorem step_ur {W : World} {gc gm : Nat} {tv : Value} {m0 : Nat → Int} {F : Nat → Prop} (hk : Kor W gc gm tv 0 2147483648 1 (wr m0 0 4 270532723) F) (C : Hrt) (hf : Fit C) (hpc : C.pc = 2147483648) (hsie : C.sie = 0) (hsat : C.satp = 0) (hu : C.user = true) :
    Calls Tryz.prog 23 #[.pointer (some ⟨gc, 0, none⟩), .agg (hc C), .int .u64 7] W fun e w' => e = .returned (.tuple #[.agg (hc (misH C 2 270532723)), .agg #[.int .i64 1, .int .i64 0, .int .u64 0, .int .u64 0, .bool false, .bool false]]) ∧ ∃ F', Kor w' gc gm tv 0 2147483648 1 (wr m0 0 4 270532723) F' ∧ Mod (fun k => k = gc ∨ F k) W w' ∧ ∀ k, F' k → F k ∨ W.heap.size ≤ k := by
  refine step_sret (s2 := trapP (decP (newS gc 7 (ord C)) 270532723 ⟨18, 0, 0, 0, 0, 0, 0, false⟩) 2 270532723) hk C hf 7 hpc hsie hsat ⟨by decide, by decide⟩ ur_d (Lib.hid Dec_115_18) rfl fun W' gs r F' y => ?_
  refine (sret_true y.step (ord_fit hf) (⟨by decide, by decide⟩ : U64 270532723) hu).mono ?_
  rintro e w' ⟨rfl, nb, m⟩
  exact ⟨rfl, y.out.set nb m rfl⟩
theorem uw_w : wordP ⟨19, 0, 0, 0, 0, 0, 0, false⟩ = 273678451 := by kernel_rfl
theorem uw_d : dec 273678451 = some ⟨19, 0, 0, 0, 0, 0, 0, false⟩ := by kernel_rfl
theorem one_uw (W : World) : Calls Tryz.prog 22 #[.agg #[.int .i64 19, .int .i64 0, .int .i64 0, .int .i64 0, .int .i64 0, .int .i64 0, .int .i64 0, .bool false], .slice none 0 0] W fun e w' => ∃ gc gt h1 h2 F1 F2, e = .returned (.tuple #[.pointer (some ⟨gc, 0, none⟩), .agg #[.pointer (some ⟨h1, 0, none⟩), .pointer (some ⟨h2, 0, none⟩)], .bool true]) ∧ DK W w' h1 h2 2147483648 1 (wr (cm 1 (fun _ => (0, 0)) 0) 0 4 273678451) (wr (cm 1 (fun _ => (0, 0)) 0) 0 4 273678451) F1 F2 ((gc, ccg h1 (.pointer (some ⟨gt, 0, none⟩)) 0 0 0 0 (.map none), TC) :: []) := by
  have h := one_any W ⟨19, 0, 0, 0, 0, 0, 0, false⟩ (by unfold InR; decide) (by rw [uw_w]; exact ⟨by decide, by decide⟩) (by rw [uw_w]; exact uw_d) (Lib.hid (by rw [uw_w]; exact rDec_115_19)) none 0 0 (fun _ => (0, 0)) (no_cells _ _) (by decide)
  rw [uw_w] at h
  refine h.mono fun e w' q => ?_
  obtain ⟨gc, gt, h1, h2, F1, F2, rfl, d⟩ := q
  exact ⟨gc, gt, h1, h2, F1, F2, rfl, d.solo⟩
theorem enc_uw (W : World) : Calls Tryz.prog 27 #[.agg #[.int .i64 19, .int .i64 0, .int .i64 0, .int .i64 0, .int .i64 0, .int .i64 0, .int .i64 0, .bool false]] W fun e w' => e = .returned (.tuple #[.int .u32 273678451, .bool true]) ∧ Below W.heap.size W w' := by
  have hi : InR ⟨19, 0, 0, 0, 0, 0, 0, false⟩ := by unfold InR; decide
  have hw := uw_w
  have h := rEncode_at ⟨19, 0, 0, 0, 0, 0, 0, false⟩ 273678451 hi ⟨by decide, by decide⟩ uw_d (Lib.hid rDec_115_19) (Lib.hid (by rw [← hw]; exact word_at _ hi)) W
  exact h
theorem step_uw {W : World} {gc gm : Nat} {tv : Value} {m0 : Nat → Int} {F : Nat → Prop} (hk : Kor W gc gm tv 0 2147483648 1 (wr m0 0 4 273678451) F) (C : Hrt) (hf : Fit C) (hpc : C.pc = 2147483648) (hsie : C.sie = 0) (hsat : C.satp = 0) (hu : C.user = true) :
    Calls Tryz.prog 23 #[.pointer (some ⟨gc, 0, none⟩), .agg (hc C), .int .u64 7] W fun e w' => e = .returned (.tuple #[.agg (hc (misH C 2 273678451)), .agg #[.int .i64 1, .int .i64 0, .int .u64 0, .int .u64 0, .bool false, .bool false]]) ∧ ∃ F', Kor w' gc gm tv 0 2147483648 1 (wr m0 0 4 273678451) F' ∧ Mod (fun k => k = gc ∨ F k) W w' ∧ ∀ k, F' k → F k ∨ W.heap.size ≤ k := by
  refine step_wfi (s2 := trapP (decP (newS gc 7 (ord C)) 273678451 ⟨19, 0, 0, 0, 0, 0, 0, false⟩) 2 273678451) hk C hf 7 hpc hsie hsat ⟨by decide, by decide⟩ uw_d (Lib.hid Dec_115_19) rfl fun W' gs r F' y => ?_
  refine (wfi_true y.step (ord_fit hf) (⟨by decide, by decide⟩ : U64 273678451) hu).mono ?_
  rintro e w' ⟨rfl, nb, m⟩
  exact ⟨rfl, y.out.set nb m rfl⟩
theorem us_w : wordP ⟨20, 0, 0, 0, 0, 0, 0, false⟩ = 301990003 := by kernel_rfl
theorem us_d : dec 301990003 = some ⟨20, 0, 0, 0, 0, 0, 0, false⟩ := by kernel_rfl
theorem one_us (W : World) : Calls Tryz.prog 22 #[.agg #[.int .i64 20, .int .i64 0, .int .i64 0, .int .i64 0, .int .i64 0, .int .i64 0, .int .i64 0, .bool false], .slice none 0 0] W fun e w' => ∃ gc gt h1 h2 F1 F2, e = .returned (.tuple #[.pointer (some ⟨gc, 0, none⟩), .agg #[.pointer (some ⟨h1, 0, none⟩), .pointer (some ⟨h2, 0, none⟩)], .bool true]) ∧ DK W w' h1 h2 2147483648 1 (wr (cm 1 (fun _ => (0, 0)) 0) 0 4 301990003) (wr (cm 1 (fun _ => (0, 0)) 0) 0 4 301990003) F1 F2 ((gc, ccg h1 (.pointer (some ⟨gt, 0, none⟩)) 0 0 0 0 (.map none), TC) :: []) := by
  have h := one_any W ⟨20, 0, 0, 0, 0, 0, 0, false⟩ (by unfold InR; decide) (by rw [us_w]; exact ⟨by decide, by decide⟩) (by rw [us_w]; exact us_d) (Lib.hid (by rw [us_w]; exact (rDec_115_any 301990003 ⟨by decide, by decide⟩ (by kernel_rfl) (by decide) (by decide) (by decide) (by decide)))) none 0 0 (fun _ => (0, 0)) (no_cells _ _) (by decide)
  rw [us_w] at h
  refine h.mono fun e w' q => ?_
  obtain ⟨gc, gt, h1, h2, F1, F2, rfl, d⟩ := q
  exact ⟨gc, gt, h1, h2, F1, F2, rfl, d.solo⟩
theorem enc_us (W : World) : Calls Tryz.prog 27 #[.agg #[.int .i64 20, .int .i64 0, .int .i64 0, .int .i64 0, .int .i64 0, .int .i64 0, .int .i64 0, .bool false]] W fun e w' => e = .returned (.tuple #[.int .u32 301990003, .bool true]) ∧ Below W.heap.size W w' := by
  have hi : InR ⟨20, 0, 0, 0, 0, 0, 0, false⟩ := by unfold InR; decide
  have hw := us_w
  have h := rEncode_at ⟨20, 0, 0, 0, 0, 0, 0, false⟩ 301990003 hi ⟨by decide, by decide⟩ us_d (Lib.hid (rDec_115_any 301990003 ⟨by decide, by decide⟩ (by kernel_rfl) (by decide) (by decide) (by decide) (by decide))) (Lib.hid (by rw [← hw]; exact word_at _ hi)) W
  exact h
theorem step_us {W : World} {gc gm : Nat} {tv : Value} {m0 : Nat → Int} {F : Nat → Prop} (hk : Kor W gc gm tv 0 2147483648 1 (wr m0 0 4 301990003) F) (C : Hrt) (hf : Fit C) (hpc : C.pc = 2147483648) (hsie : C.sie = 0) (hsat : C.satp = 0) (hu : C.user = true) :
    Calls Tryz.prog 23 #[.pointer (some ⟨gc, 0, none⟩), .agg (hc C), .int .u64 7] W fun e w' => e = .returned (.tuple #[.agg (hc (misH C 2 301990003)), .agg #[.int .i64 1, .int .i64 0, .int .u64 0, .int .u64 0, .bool false, .bool false]]) ∧ ∃ F', Kor w' gc gm tv 0 2147483648 1 (wr m0 0 4 301990003) F' ∧ Mod (fun k => k = gc ∨ F k) W w' ∧ ∀ k, F' k → F k ∨ W.heap.size ≤ k := by
  refine step_sfence (s2 := trapP (decP (newS gc 7 (ord C)) 301990003 ⟨20, 0, 0, 0, 0, 0, 0, false⟩) 2 301990003) hk C hf 7 hpc hsie hsat ⟨by decide, by decide⟩ us_d (Lib.hid (Dec_115_f0 301990003 ⟨by decide, by decide⟩ (by kernel_rfl) (by decide) (by decide) (by decide) (by decide) (by kernel_rfl))) rfl fun W' gs r F' y => ?_
  refine (sfence_true y.step (ord_fit hf) (⟨by decide, by decide⟩ : U64 301990003) hu).mono ?_
  rintro e w' ⟨rfl, nb, m⟩
  exact ⟨rfl, y.out.set nb m rfl⟩
theorem rdec_csr {fn imm : Int} {n1 : Nat} (hfn : 1 ≤ fn ∧ fn ≤ 3) (h1 : n1 < 32) (hi : 0 ≤ imm ∧ imm < 4096) (w : World) : Calls Tryz.prog 45 #[.int .u32 (csrU fn n1 imm)] w fun e w' => e = .returned (told (dec (csrU fn n1 imm))) ∧ Below w.heap.size w w' := by
  obtain ⟨hw, ho, ⟨a0, a1, a2, a3⟩, hz, hd⟩ := csr_word fn n1 imm hfn (by omega) hi
  exact rDec_115_any _ hw ho a0 a1 a2 a3 w
theorem inr_csr {fn imm : Int} {n1 : Nat} (hfn : 1 ≤ fn ∧ fn ≤ 3) (h1 : n1 < 32) (hi : 0 ≤ imm ∧ imm < 4096) : InR ⟨13, fn, 9, n1, 0, imm, 0, false⟩ := by unfold InR; dsimp only; omega
theorem enc_csr {fn imm : Int} {n1 : Nat} (hfn : 1 ≤ fn ∧ fn ≤ 3) (h1 : n1 < 32) (hi : 0 ≤ imm ∧ imm < 4096) (W : World) : Calls Tryz.prog 27 #[.agg #[.int .i64 13, .int .i64 fn, .int .i64 9, .int .i64 n1, .int .i64 0, .int .i64 imm, .int .i64 0, .bool false]] W fun e w' => e = .returned (.tuple #[.int .u32 (csrU fn n1 imm), .bool true]) ∧ Below W.heap.size W w' := by
  have hi' : InR ⟨13, fn, 9, n1, 0, imm, 0, false⟩ := inr_csr hfn h1 hi
  have hw : wordP ⟨13, fn, 9, n1, 0, imm, 0, false⟩ = csrU fn n1 imm := csr_wordP hfn (by omega) hi
  obtain ⟨hu, _, _, _, hd⟩ := csr_word fn n1 imm hfn (by omega) hi
  exact rEncode_at ⟨13, fn, 9, n1, 0, imm, 0, false⟩ _ hi' hu hd (Lib.hid (rdec_csr hfn h1 hi)) (Lib.hid (by rw [← hw]; exact word_at _ hi')) W
theorem one_csr {fn imm : Int} {n1 : Nat} (hfn : 1 ≤ fn ∧ fn ≤ 3) (h1 : n1 < 32) (hi : 0 ≤ imm ∧ imm < 4096) (W : World) : Calls Tryz.prog 22 #[.agg #[.int .i64 13, .int .i64 fn, .int .i64 9, .int .i64 n1, .int .i64 0, .int .i64 imm, .int .i64 0, .bool false], .slice none 0 0] W fun e w' => ∃ gc gt h1 h2 F1 F2, e = .returned (.tuple #[.pointer (some ⟨gc, 0, none⟩), .agg #[.pointer (some ⟨h1, 0, none⟩), .pointer (some ⟨h2, 0, none⟩)], .bool true]) ∧ DK W w' h1 h2 2147483648 1 (wr (cm 1 (fun _ => (0, 0)) 0) 0 4 (csrU fn n1 imm)) (wr (cm 1 (fun _ => (0, 0)) 0) 0 4 (csrU fn n1 imm)) F1 F2 ((gc, ccg h1 (.pointer (some ⟨gt, 0, none⟩)) 0 0 0 0 (.map none), TC) :: []) := by
  have hw : wordP ⟨13, fn, 9, n1, 0, imm, 0, false⟩ = csrU fn n1 imm := csr_wordP hfn (by omega) hi
  obtain ⟨hu, _, _, _, hd⟩ := csr_word fn n1 imm hfn (by omega) hi
  have h := one_any W ⟨13, fn, 9, n1, 0, imm, 0, false⟩ (inr_csr hfn h1 hi) (by rw [hw]; exact hu) (by rw [hw]; exact hd) (Lib.hid (by rw [hw]; exact rdec_csr hfn h1 hi)) none 0 0 (fun _ => (0, 0)) (no_cells _ _) (by decide)
  rw [hw] at h
  refine h.mono fun e w' q => ?_
  obtain ⟨gc, gt, h1, h2, F1, F2, rfl, d⟩ := q
  exact ⟨gc, gt, h1, h2, F1, F2, rfl, d.solo⟩
theorem step_uc {W : World} {gc gm : Nat} {tv : Value} {m0 : Nat → Int} {F : Nat → Prop} {fn imm : Int} {n1 : Nat} (hfn : 1 ≤ fn ∧ fn ≤ 3) (h1 : n1 < 32) (hi : 0 ≤ imm ∧ imm < 4096) (hok : ¬ imm = 3073 ∨ fn = 1 ∨ ¬ (n1 : Int) = 0) (hk : Kor W gc gm tv 0 2147483648 1 (wr m0 0 4 (csrU fn n1 imm)) F) (C : Hrt) (hf : Fit C) (hpc : C.pc = 2147483648) (hsie : C.sie = 0) (hsat : C.satp = 0) (hu : C.user = true) :
    Calls Tryz.prog 23 #[.pointer (some ⟨gc, 0, none⟩), .agg (hc C), .int .u64 7] W fun e w' => e = .returned (.tuple #[.agg (hc (misH C 2 (csrU fn n1 imm))), .agg #[.int .i64 1, .int .i64 0, .int .u64 0, .int .u64 0, .bool false, .bool false]]) ∧ ∃ F', Kor w' gc gm tv 0 2147483648 1 (wr m0 0 4 (csrU fn n1 imm)) F' ∧ Mod (fun k => k = gc ∨ F k) W w' ∧ ∀ k, F' k → F k ∨ W.heap.size ≤ k := by
  obtain ⟨hw, ho, ⟨a0, a1, a2, a3⟩, hz, hd⟩ := csr_word fn n1 imm hfn (by omega) hi
  refine step_csr (s2 := trapP (decP (newS gc 7 (ord C)) (csrU fn n1 imm) ⟨13, fn, 9, n1, 0, imm, 0, false⟩) 2 (csrU fn n1 imm)) hk C hf 7 hpc hsie hsat hw hd (Lib.hid (Dec_115_csr _ hw ho a0 a1 a2 a3 hz)) rfl fun W' gs r F' y => ?_
  refine (csr_user y.step (n1 := n1) rfl h1 (Lib.hid fun W2 hb => ?_)).mono ?_
  · have hU : U64 (csrU fn n1 imm) := u_of hw
    have hx := (ord_fit hf).x n1 h1
    by_cases hc' : imm = 3073
    · rcases (show fn = 1 ∨ fn = 2 ∨ fn = 3 by omega) with e | e | e
      · exact chg_w1 hb (ord_fit hf) hU hu hc' e _ hx
      · exact chg_w2 hb (ord_fit hf) hU hu hc' e (bne_iff_ne.2 (by show ¬ (n1 : Int) = 0; omega)) _ hx
      · exact chg_w3 hb (ord_fit hf) hU hu hc' e (bne_iff_ne.2 (by show ¬ (n1 : Int) = 0; omega)) _ hx
    · exact chg_no hb (ord_fit hf) hU hu hc' _
  · rintro e w' ⟨rfl, nb, m⟩
    exact ⟨rfl, y.out.set nb m rfl⟩
set_option maxHeartbeats 8000000 in
theorem usr_ur (h C H2 : Hrt) (kd ci fi ri : Int) (u : Int)  (TP1 : Hid (∀ w, Calls Tryz.prog 25 #[.int .i64 kd, .int .i64 4] w fun e w' => e = .returned (.int .i64 0) ∧ w = w')) (e32 : IntKind.u64.wrap u = u)
    (TC0 : Hid (∀ w, Calls Tryz.prog 24 #[.agg (hc h)] w fun e w' => e = .returned (.agg (hc C)) ∧ Below w.heap.size w w'))
    (TE : Hid (∀ W, Calls Tryz.prog 27 #[.agg #[.int .i64 18, .int .i64 0, .int .i64 0, .int .i64 0, .int .i64 0, .int .i64 0, .int .i64 0, .bool false]] W fun e w' => e = .returned (.tuple #[.int .u32 u, .bool true]) ∧ Below W.heap.size W w'))
    (TO : Hid (∀ W, Calls Tryz.prog 22 #[.agg #[.int .i64 18, .int .i64 0, .int .i64 0, .int .i64 0, .int .i64 0, .int .i64 0, .int .i64 0, .bool false], .slice none 0 0] W fun e w' => ∃ gc gt h1 h2 F1 F2, e = .returned (.tuple #[.pointer (some ⟨gc, 0, none⟩), .agg #[.pointer (some ⟨h1, 0, none⟩), .pointer (some ⟨h2, 0, none⟩)], .bool true]) ∧ DK W w' h1 h2 2147483648 1 (wr (cm 1 (fun _ => (0, 0)) 0) 0 4 u) (wr (cm 1 (fun _ => (0, 0)) 0) 0 4 u) F1 F2 ((gc, ccg h1 (.pointer (some ⟨gt, 0, none⟩)) 0 0 0 0 (.map none), TC) :: [])))
    (TS : Hid (∀ (X : World) (gc gm : Nat) (tv : Value) (m0 : Nat → Int) (F : Nat → Prop), Kor X gc gm tv 0 2147483648 1 (wr m0 0 4 u) F → Calls Tryz.prog 23 #[.pointer (some ⟨gc, 0, none⟩), .agg (hc { C with user := true }), .int .u64 7] X fun e w' => e = .returned (.tuple #[.agg (hc H2), .agg #[.int .i64 1, .int .i64 0, .int .u64 0, .int .u64 0, .bool false, .bool false]]) ∧ ∃ F', Kor w' gc gm tv 0 2147483648 1 (wr m0 0 4 u) F' ∧ Mod (fun k => k = gc ∨ F k) X w' ∧ ∀ k, F' k → F k ∨ X.heap.size ≤ k))
    (r43 : (hc H2)[43]? = some (.int .u64 2)) (r44 : (hc H2)[44]? = some (.int .u64 u)) (r33 : (hc H2)[33]? = some (.bool false)) (r36 : (hc H2)[36]? = some (.bool false)) (rx1 : Row (hc H2) 0 (xa C.x)) (rx2 : Row (hc { C with user := true }) 0 (xa C.x)) (W : World) :
    Calls Tryz.prog 12 #[.agg (hc h), .int .i64 kd, .int .i64 ci, .int .i64 fi, .int .i64 ri] W fun e w' => e = .returned (.bool true) ∧ Below W.heap.size W w' := by
  go_enter Tryz.func12, Tryz.ntmps12
  have ST := Lib.hid (Kn.nil (S := Step.Nil) (W := W))
  go_wp2_with (first
    | ((with_reducible refine Step.gate_box (t := 25) rfl ?_); refine Step.fresh (cs := hc h) (T := 25) rfl ?hr ?_; (case hr => first | (go_simp; done) | (go_simp; rfl)); intro g5 w1 b hg hb; replace ST := Lib.hid (ST.out.made b hg hb); clear b hb; clear hg)
    | ((with_reducible refine Step.gate_load (t := 25) rfl ?_); refine Step.loadAll ST.out.at0 rfl rfl rfl Tryz.underlying25 rfl (size_hart _) ?_)
    | (go_at_call 24; (with_reducible refine (TC0.out _).mono ?_); rintro e w' ⟨rfl, hb⟩; replace ST := Lib.hid (ST.out.call hb); clear hb)
    | ((with_reducible refine Step.gate_store (t := 25) rfl ?_); refine Step.storeAll ST.out.at0 rfl rfl rfl rfl rfl (size_hart _) rfl (hc_all _) ?_; intro w3 nb m; replace ST := Lib.hid (ST.out.set0 nb m); clear nb m)
    | ((with_reducible refine Step.gate_store (t := 4) rfl ?_); refine Step.store ST.out.at0 rfl rfl rfl rfl rfl pl_bool rfl rfl ?_; intro w3 nb m; simp [go_sem, set_user] at nb; replace ST := Lib.hid (ST.out.set0 nb m); clear nb m)
    | ((with_reducible refine Step.gate_build (t := 53) rfl ?_); refine Step.freshSlice (cs := #[.int .i64 18, .int .i64 19, .int .i64 20, .int .i64 13]) (T := 3) (n := 4) (m := 4) rfl ?hr ?_; (case hr => first | (go_simp; done) | (go_simp; rfl)); intro gs w1 b hg hb; replace ST := Lib.hid (ST.out.made b hg hb); clear b hg hb)
    | (go_at_call 25; (with_reducible refine (TP1.out _).mono ?_); rintro e w' ⟨rfl, rfl⟩)
    | ((with_reducible refine Step.gate_load (t := 3) rfl ?_); refine Step.loadG ST.out.at0 rfl rfl rfl pl_int rfl ?_)
    | ((with_reducible refine Step.gate_alloc (t := 44) rfl ?_); refine Step.freshAlloc rfl rfl (alloc_agg zero_inst) ?_; intro g11 w2 b hg hb; replace ST := Lib.hid (ST.out.made b hg hb); clear b hb hg)
    | ((with_reducible refine Step.gate_store (t := 44) rfl ?_); refine Step.storeAll ST.out.at0 rfl rfl rfl rfl rfl size_inst rfl rfl ?_; intro w3 nb m; replace ST := Lib.hid (ST.out.set0 nb m); clear nb m)
    | ((with_reducible refine Step.gate_load (t := 44) rfl ?_); refine Step.loadAll ST.out.at0 rfl rfl rfl Tryz.underlying44 rfl size_inst ?_)
    | (go_at_call 27; (with_reducible refine (TE.out _).mono ?_); rintro e w' ⟨rfl, hb⟩; replace ST := Lib.hid (ST.out.call hb); clear hb)
    | (go_at_call 22; (with_reducible refine (TO.out _).mono ?_); rintro e w9 ⟨gc, gt, h1, h2, F1, F2, rfl, d⟩; replace ST := Lib.hid (DK.join ST.out d); clear d)
    | ((with_reducible refine Step.gate_alloc (t := 40) rfl ?_); refine Step.freshAlloc rfl rfl (Duo.alloc_agg Duo.zero_two) ?_; intro g15 w2 b hg hb; replace ST := Lib.hid (ST.out.made b hg hb); clear b hb hg)
    | ((with_reducible refine Step.gate_store (t := 40) rfl ?_); refine Step.storeAll (vs := #[.pointer (some ⟨h1, 0, none⟩), .pointer (some ⟨h2, 0, none⟩)]) ST.out.kn.at0 rfl rfl rfl rfl rfl size_two rfl rfl ?_; intro w3 nb m; replace ST := Lib.hid (ST.out.set (ST.out.kn.set0 nb m) m ⟨_, List.mem_of_getElem? (i := 0) rfl, rfl⟩ rfl); clear nb m)
    | ((with_reducible refine Step.gate_load (t := 25) rfl ?_); refine Step.loadAll ST.out.kn.at4 rfl rfl rfl Tryz.underlying25 rfl (size_hart _) ?_)
    | (go_at_call 23; (with_reducible refine (TS.out _ _ _ _ _ _ ST.out.core1).mono ?_); rintro e w10 ⟨rfl, F3, hk, m, hF⟩; replace ST := Lib.hid (ST.out.step1 hk m hF); clear hk m hF)
    | ((with_reducible refine Step.gate_alloc (t := 25) rfl ?_); refine Step.freshAlloc rfl rfl (alloc_agg zero_hart) ?_; intro g17 w2 b hg hb; replace ST := Lib.hid (ST.out.made b hg hb); clear b hb hg)
    | ((with_reducible refine Step.gate_alloc (t := 46) rfl ?_); refine Step.freshAlloc rfl rfl (alloc_agg zero_ev) ?_; intro g18 w2 b hg hb; replace ST := Lib.hid (ST.out.made b hg hb); clear b hb hg)
    | ((with_reducible refine Step.gate_store (t := 25) rfl ?_); refine Step.storeAll ST.out.kn.at1 rfl rfl rfl rfl rfl (size_hart _) rfl (hc_all _) ?_; intro w3 nb m; replace ST := Lib.hid (ST.out.set (ST.out.kn.set1 nb m) m ⟨_, List.mem_of_getElem? (i := 1) rfl, rfl⟩ rfl); clear nb m)
    | ((with_reducible refine Step.gate_store (t := 46) rfl ?_); refine Step.storeAll (vs := #[.int .i64 1, .int .i64 0, .int .u64 0, .int .u64 0, .bool false, .bool false]) ST.out.kn.at0 rfl rfl rfl rfl rfl size_ev rfl rfl ?_; intro w3 nb m; replace ST := Lib.hid (ST.out.set (ST.out.kn.set0 nb m) m ⟨_, List.mem_of_getElem? (i := 0) rfl, rfl⟩ rfl); clear nb m)
    | ((with_reducible refine Step.gate_load (t := 46) rfl ?_); refine Step.loadAll ST.out.kn.at0 rfl rfl rfl Tryz.underlying46 rfl size_ev ?_)
    | ((with_reducible refine Step.gate_load (t := 22) rfl ?_); refine Step.loadG ST.out.kn.at1 rfl rfl rfl pl_u64 r43 ?_)
    | ((with_reducible refine Step.gate_load (t := 22) rfl ?_); refine Step.loadG ST.out.kn.at1 rfl rfl rfl pl_u64 r44 ?_)
    | ((with_reducible refine Step.gate_load (t := 4) rfl ?_); refine Step.loadG ST.out.kn.at1 rfl rfl rfl pl_bool r33 ?_)
    | ((with_reducible refine Step.gate_load (t := 4) rfl ?_); refine Step.loadG ST.out.kn.at1 rfl rfl rfl pl_bool r36 ?_)
    | ((with_reducible refine Step.gate_load (t := 23) rfl ?_); refine loadMidW ST.out.kn.at1 rfl rfl rfl rx1 Tryz.underlying23 rfl (size_arr _) ?_)
    | ((with_reducible refine Step.gate_load (t := 23) rfl ?_); refine loadMidW ST.out.kn.at5 rfl rfl rfl rx2 Tryz.underlying23 rfl (size_arr _) ?_)
    | ((with_reducible refine gate_bin (t := 23) rfl ?_); refine valueW (v := .bool true) rfl (eql_arr rfl rfl rfl _) ?_)
    | ((with_reducible refine Step.gate_load (t := 40) rfl ?_); refine loadAllW ST.out.kn.at2 rfl rfl rfl Tryz.underlying40 rfl size_two ?_)
    | (go_at_call 26; (with_reducible refine (same_dk ST.out).mono ?_); rintro e w' ⟨rfl, hb⟩; replace ST := Lib.hid (ST.out.call hb); clear hb)
    | (go_at_call 15; (with_reducible refine (awake_any _).mono ?_); rintro e w' ⟨rfl, hb⟩; replace ST := Lib.hid (ST.out.call hb); clear hb))
  all_goals go_ret
  all_goals exact ⟨rfl, ST.out.below⟩
set_option maxHeartbeats 8000000 in
theorem usr_uw (h C H2 : Hrt) (kd ci fi ri : Int) (u : Int)  (TP1 : Hid (∀ w, Calls Tryz.prog 25 #[.int .i64 kd, .int .i64 4] w fun e w' => e = .returned (.int .i64 1) ∧ w = w')) (e32 : IntKind.u64.wrap u = u)
    (TC0 : Hid (∀ w, Calls Tryz.prog 24 #[.agg (hc h)] w fun e w' => e = .returned (.agg (hc C)) ∧ Below w.heap.size w w'))
    (TE : Hid (∀ W, Calls Tryz.prog 27 #[.agg #[.int .i64 19, .int .i64 0, .int .i64 0, .int .i64 0, .int .i64 0, .int .i64 0, .int .i64 0, .bool false]] W fun e w' => e = .returned (.tuple #[.int .u32 u, .bool true]) ∧ Below W.heap.size W w'))
    (TO : Hid (∀ W, Calls Tryz.prog 22 #[.agg #[.int .i64 19, .int .i64 0, .int .i64 0, .int .i64 0, .int .i64 0, .int .i64 0, .int .i64 0, .bool false], .slice none 0 0] W fun e w' => ∃ gc gt h1 h2 F1 F2, e = .returned (.tuple #[.pointer (some ⟨gc, 0, none⟩), .agg #[.pointer (some ⟨h1, 0, none⟩), .pointer (some ⟨h2, 0, none⟩)], .bool true]) ∧ DK W w' h1 h2 2147483648 1 (wr (cm 1 (fun _ => (0, 0)) 0) 0 4 u) (wr (cm 1 (fun _ => (0, 0)) 0) 0 4 u) F1 F2 ((gc, ccg h1 (.pointer (some ⟨gt, 0, none⟩)) 0 0 0 0 (.map none), TC) :: [])))
    (TS : Hid (∀ (X : World) (gc gm : Nat) (tv : Value) (m0 : Nat → Int) (F : Nat → Prop), Kor X gc gm tv 0 2147483648 1 (wr m0 0 4 u) F → Calls Tryz.prog 23 #[.pointer (some ⟨gc, 0, none⟩), .agg (hc { C with user := true }), .int .u64 7] X fun e w' => e = .returned (.tuple #[.agg (hc H2), .agg #[.int .i64 1, .int .i64 0, .int .u64 0, .int .u64 0, .bool false, .bool false]]) ∧ ∃ F', Kor w' gc gm tv 0 2147483648 1 (wr m0 0 4 u) F' ∧ Mod (fun k => k = gc ∨ F k) X w' ∧ ∀ k, F' k → F k ∨ X.heap.size ≤ k))
    (r43 : (hc H2)[43]? = some (.int .u64 2)) (r44 : (hc H2)[44]? = some (.int .u64 u)) (r33 : (hc H2)[33]? = some (.bool false)) (r36 : (hc H2)[36]? = some (.bool false)) (rx1 : Row (hc H2) 0 (xa C.x)) (rx2 : Row (hc { C with user := true }) 0 (xa C.x)) (W : World) :
    Calls Tryz.prog 12 #[.agg (hc h), .int .i64 kd, .int .i64 ci, .int .i64 fi, .int .i64 ri] W fun e w' => e = .returned (.bool true) ∧ Below W.heap.size W w' := by
  go_enter Tryz.func12, Tryz.ntmps12
  have ST := Lib.hid (Kn.nil (S := Step.Nil) (W := W))
  go_wp2_with (first
    | ((with_reducible refine Step.gate_box (t := 25) rfl ?_); refine Step.fresh (cs := hc h) (T := 25) rfl ?hr ?_; (case hr => first | (go_simp; done) | (go_simp; rfl)); intro g5 w1 b hg hb; replace ST := Lib.hid (ST.out.made b hg hb); clear b hb; clear hg)
    | ((with_reducible refine Step.gate_load (t := 25) rfl ?_); refine Step.loadAll ST.out.at0 rfl rfl rfl Tryz.underlying25 rfl (size_hart _) ?_)
    | (go_at_call 24; (with_reducible refine (TC0.out _).mono ?_); rintro e w' ⟨rfl, hb⟩; replace ST := Lib.hid (ST.out.call hb); clear hb)
    | ((with_reducible refine Step.gate_store (t := 25) rfl ?_); refine Step.storeAll ST.out.at0 rfl rfl rfl rfl rfl (size_hart _) rfl (hc_all _) ?_; intro w3 nb m; replace ST := Lib.hid (ST.out.set0 nb m); clear nb m)
    | ((with_reducible refine Step.gate_store (t := 4) rfl ?_); refine Step.store ST.out.at0 rfl rfl rfl rfl rfl pl_bool rfl rfl ?_; intro w3 nb m; simp [go_sem, set_user] at nb; replace ST := Lib.hid (ST.out.set0 nb m); clear nb m)
    | ((with_reducible refine Step.gate_build (t := 53) rfl ?_); refine Step.freshSlice (cs := #[.int .i64 18, .int .i64 19, .int .i64 20, .int .i64 13]) (T := 3) (n := 4) (m := 4) rfl ?hr ?_; (case hr => first | (go_simp; done) | (go_simp; rfl)); intro gs w1 b hg hb; replace ST := Lib.hid (ST.out.made b hg hb); clear b hg hb)
    | (go_at_call 25; (with_reducible refine (TP1.out _).mono ?_); rintro e w' ⟨rfl, rfl⟩)
    | ((with_reducible refine Step.gate_load (t := 3) rfl ?_); refine Step.loadG ST.out.at0 rfl rfl rfl pl_int rfl ?_)
    | ((with_reducible refine Step.gate_alloc (t := 44) rfl ?_); refine Step.freshAlloc rfl rfl (alloc_agg zero_inst) ?_; intro g11 w2 b hg hb; replace ST := Lib.hid (ST.out.made b hg hb); clear b hb hg)
    | ((with_reducible refine Step.gate_store (t := 44) rfl ?_); refine Step.storeAll ST.out.at0 rfl rfl rfl rfl rfl size_inst rfl rfl ?_; intro w3 nb m; replace ST := Lib.hid (ST.out.set0 nb m); clear nb m)
    | ((with_reducible refine Step.gate_load (t := 44) rfl ?_); refine Step.loadAll ST.out.at0 rfl rfl rfl Tryz.underlying44 rfl size_inst ?_)
    | (go_at_call 27; (with_reducible refine (TE.out _).mono ?_); rintro e w' ⟨rfl, hb⟩; replace ST := Lib.hid (ST.out.call hb); clear hb)
    | (go_at_call 22; (with_reducible refine (TO.out _).mono ?_); rintro e w9 ⟨gc, gt, h1, h2, F1, F2, rfl, d⟩; replace ST := Lib.hid (DK.join ST.out d); clear d)
    | ((with_reducible refine Step.gate_alloc (t := 40) rfl ?_); refine Step.freshAlloc rfl rfl (Duo.alloc_agg Duo.zero_two) ?_; intro g15 w2 b hg hb; replace ST := Lib.hid (ST.out.made b hg hb); clear b hb hg)
    | ((with_reducible refine Step.gate_store (t := 40) rfl ?_); refine Step.storeAll (vs := #[.pointer (some ⟨h1, 0, none⟩), .pointer (some ⟨h2, 0, none⟩)]) ST.out.kn.at0 rfl rfl rfl rfl rfl size_two rfl rfl ?_; intro w3 nb m; replace ST := Lib.hid (ST.out.set (ST.out.kn.set0 nb m) m ⟨_, List.mem_of_getElem? (i := 0) rfl, rfl⟩ rfl); clear nb m)
    | ((with_reducible refine Step.gate_load (t := 25) rfl ?_); refine Step.loadAll ST.out.kn.at4 rfl rfl rfl Tryz.underlying25 rfl (size_hart _) ?_)
    | (go_at_call 23; (with_reducible refine (TS.out _ _ _ _ _ _ ST.out.core1).mono ?_); rintro e w10 ⟨rfl, F3, hk, m, hF⟩; replace ST := Lib.hid (ST.out.step1 hk m hF); clear hk m hF)
    | ((with_reducible refine Step.gate_alloc (t := 25) rfl ?_); refine Step.freshAlloc rfl rfl (alloc_agg zero_hart) ?_; intro g17 w2 b hg hb; replace ST := Lib.hid (ST.out.made b hg hb); clear b hb hg)
    | ((with_reducible refine Step.gate_alloc (t := 46) rfl ?_); refine Step.freshAlloc rfl rfl (alloc_agg zero_ev) ?_; intro g18 w2 b hg hb; replace ST := Lib.hid (ST.out.made b hg hb); clear b hb hg)
    | ((with_reducible refine Step.gate_store (t := 25) rfl ?_); refine Step.storeAll ST.out.kn.at1 rfl rfl rfl rfl rfl (size_hart _) rfl (hc_all _) ?_; intro w3 nb m; replace ST := Lib.hid (ST.out.set (ST.out.kn.set1 nb m) m ⟨_, List.mem_of_getElem? (i := 1) rfl, rfl⟩ rfl); clear nb m)
    | ((with_reducible refine Step.gate_store (t := 46) rfl ?_); refine Step.storeAll (vs := #[.int .i64 1, .int .i64 0, .int .u64 0, .int .u64 0, .bool false, .bool false]) ST.out.kn.at0 rfl rfl rfl rfl rfl size_ev rfl rfl ?_; intro w3 nb m; replace ST := Lib.hid (ST.out.set (ST.out.kn.set0 nb m) m ⟨_, List.mem_of_getElem? (i := 0) rfl, rfl⟩ rfl); clear nb m)
    | ((with_reducible refine Step.gate_load (t := 46) rfl ?_); refine Step.loadAll ST.out.kn.at0 rfl rfl rfl Tryz.underlying46 rfl size_ev ?_)
    | ((with_reducible refine Step.gate_load (t := 22) rfl ?_); refine Step.loadG ST.out.kn.at1 rfl rfl rfl pl_u64 r43 ?_)
    | ((with_reducible refine Step.gate_load (t := 22) rfl ?_); refine Step.loadG ST.out.kn.at1 rfl rfl rfl pl_u64 r44 ?_)
    | ((with_reducible refine Step.gate_load (t := 4) rfl ?_); refine Step.loadG ST.out.kn.at1 rfl rfl rfl pl_bool r33 ?_)
    | ((with_reducible refine Step.gate_load (t := 4) rfl ?_); refine Step.loadG ST.out.kn.at1 rfl rfl rfl pl_bool r36 ?_)
    | ((with_reducible refine Step.gate_load (t := 23) rfl ?_); refine loadMidW ST.out.kn.at1 rfl rfl rfl rx1 Tryz.underlying23 rfl (size_arr _) ?_)
    | ((with_reducible refine Step.gate_load (t := 23) rfl ?_); refine loadMidW ST.out.kn.at5 rfl rfl rfl rx2 Tryz.underlying23 rfl (size_arr _) ?_)
    | ((with_reducible refine gate_bin (t := 23) rfl ?_); refine valueW (v := .bool true) rfl (eql_arr rfl rfl rfl _) ?_)
    | ((with_reducible refine Step.gate_load (t := 40) rfl ?_); refine loadAllW ST.out.kn.at2 rfl rfl rfl Tryz.underlying40 rfl size_two ?_)
    | (go_at_call 26; (with_reducible refine (same_dk ST.out).mono ?_); rintro e w' ⟨rfl, hb⟩; replace ST := Lib.hid (ST.out.call hb); clear hb)
    | (go_at_call 15; (with_reducible refine (awake_any _).mono ?_); rintro e w' ⟨rfl, hb⟩; replace ST := Lib.hid (ST.out.call hb); clear hb))
  all_goals go_ret
  all_goals exact ⟨rfl, ST.out.below⟩
set_option maxHeartbeats 8000000 in
theorem usr_us (h C H2 : Hrt) (kd ci fi ri : Int) (u : Int)  (TP1 : Hid (∀ w, Calls Tryz.prog 25 #[.int .i64 kd, .int .i64 4] w fun e w' => e = .returned (.int .i64 2) ∧ w = w')) (e32 : IntKind.u64.wrap u = u)
    (TC0 : Hid (∀ w, Calls Tryz.prog 24 #[.agg (hc h)] w fun e w' => e = .returned (.agg (hc C)) ∧ Below w.heap.size w w'))
    (TE : Hid (∀ W, Calls Tryz.prog 27 #[.agg #[.int .i64 20, .int .i64 0, .int .i64 0, .int .i64 0, .int .i64 0, .int .i64 0, .int .i64 0, .bool false]] W fun e w' => e = .returned (.tuple #[.int .u32 u, .bool true]) ∧ Below W.heap.size W w'))
    (TO : Hid (∀ W, Calls Tryz.prog 22 #[.agg #[.int .i64 20, .int .i64 0, .int .i64 0, .int .i64 0, .int .i64 0, .int .i64 0, .int .i64 0, .bool false], .slice none 0 0] W fun e w' => ∃ gc gt h1 h2 F1 F2, e = .returned (.tuple #[.pointer (some ⟨gc, 0, none⟩), .agg #[.pointer (some ⟨h1, 0, none⟩), .pointer (some ⟨h2, 0, none⟩)], .bool true]) ∧ DK W w' h1 h2 2147483648 1 (wr (cm 1 (fun _ => (0, 0)) 0) 0 4 u) (wr (cm 1 (fun _ => (0, 0)) 0) 0 4 u) F1 F2 ((gc, ccg h1 (.pointer (some ⟨gt, 0, none⟩)) 0 0 0 0 (.map none), TC) :: [])))
    (TS : Hid (∀ (X : World) (gc gm : Nat) (tv : Value) (m0 : Nat → Int) (F : Nat → Prop), Kor X gc gm tv 0 2147483648 1 (wr m0 0 4 u) F → Calls Tryz.prog 23 #[.pointer (some ⟨gc, 0, none⟩), .agg (hc { C with user := true }), .int .u64 7] X fun e w' => e = .returned (.tuple #[.agg (hc H2), .agg #[.int .i64 1, .int .i64 0, .int .u64 0, .int .u64 0, .bool false, .bool false]]) ∧ ∃ F', Kor w' gc gm tv 0 2147483648 1 (wr m0 0 4 u) F' ∧ Mod (fun k => k = gc ∨ F k) X w' ∧ ∀ k, F' k → F k ∨ X.heap.size ≤ k))
    (r43 : (hc H2)[43]? = some (.int .u64 2)) (r44 : (hc H2)[44]? = some (.int .u64 u)) (r33 : (hc H2)[33]? = some (.bool false)) (r36 : (hc H2)[36]? = some (.bool false)) (rx1 : Row (hc H2) 0 (xa C.x)) (rx2 : Row (hc { C with user := true }) 0 (xa C.x)) (W : World) :
    Calls Tryz.prog 12 #[.agg (hc h), .int .i64 kd, .int .i64 ci, .int .i64 fi, .int .i64 ri] W fun e w' => e = .returned (.bool true) ∧ Below W.heap.size W w' := by
  go_enter Tryz.func12, Tryz.ntmps12
  have ST := Lib.hid (Kn.nil (S := Step.Nil) (W := W))
  go_wp2_with (first
    | ((with_reducible refine Step.gate_box (t := 25) rfl ?_); refine Step.fresh (cs := hc h) (T := 25) rfl ?hr ?_; (case hr => first | (go_simp; done) | (go_simp; rfl)); intro g5 w1 b hg hb; replace ST := Lib.hid (ST.out.made b hg hb); clear b hb; clear hg)
    | ((with_reducible refine Step.gate_load (t := 25) rfl ?_); refine Step.loadAll ST.out.at0 rfl rfl rfl Tryz.underlying25 rfl (size_hart _) ?_)
    | (go_at_call 24; (with_reducible refine (TC0.out _).mono ?_); rintro e w' ⟨rfl, hb⟩; replace ST := Lib.hid (ST.out.call hb); clear hb)
    | ((with_reducible refine Step.gate_store (t := 25) rfl ?_); refine Step.storeAll ST.out.at0 rfl rfl rfl rfl rfl (size_hart _) rfl (hc_all _) ?_; intro w3 nb m; replace ST := Lib.hid (ST.out.set0 nb m); clear nb m)
    | ((with_reducible refine Step.gate_store (t := 4) rfl ?_); refine Step.store ST.out.at0 rfl rfl rfl rfl rfl pl_bool rfl rfl ?_; intro w3 nb m; simp [go_sem, set_user] at nb; replace ST := Lib.hid (ST.out.set0 nb m); clear nb m)
    | ((with_reducible refine Step.gate_build (t := 53) rfl ?_); refine Step.freshSlice (cs := #[.int .i64 18, .int .i64 19, .int .i64 20, .int .i64 13]) (T := 3) (n := 4) (m := 4) rfl ?hr ?_; (case hr => first | (go_simp; done) | (go_simp; rfl)); intro gs w1 b hg hb; replace ST := Lib.hid (ST.out.made b hg hb); clear b hg hb)
    | (go_at_call 25; (with_reducible refine (TP1.out _).mono ?_); rintro e w' ⟨rfl, rfl⟩)
    | ((with_reducible refine Step.gate_load (t := 3) rfl ?_); refine Step.loadG ST.out.at0 rfl rfl rfl pl_int rfl ?_)
    | ((with_reducible refine Step.gate_alloc (t := 44) rfl ?_); refine Step.freshAlloc rfl rfl (alloc_agg zero_inst) ?_; intro g11 w2 b hg hb; replace ST := Lib.hid (ST.out.made b hg hb); clear b hb hg)
    | ((with_reducible refine Step.gate_store (t := 44) rfl ?_); refine Step.storeAll ST.out.at0 rfl rfl rfl rfl rfl size_inst rfl rfl ?_; intro w3 nb m; replace ST := Lib.hid (ST.out.set0 nb m); clear nb m)
    | ((with_reducible refine Step.gate_load (t := 44) rfl ?_); refine Step.loadAll ST.out.at0 rfl rfl rfl Tryz.underlying44 rfl size_inst ?_)
    | (go_at_call 27; (with_reducible refine (TE.out _).mono ?_); rintro e w' ⟨rfl, hb⟩; replace ST := Lib.hid (ST.out.call hb); clear hb)
    | (go_at_call 22; (with_reducible refine (TO.out _).mono ?_); rintro e w9 ⟨gc, gt, h1, h2, F1, F2, rfl, d⟩; replace ST := Lib.hid (DK.join ST.out d); clear d)
    | ((with_reducible refine Step.gate_alloc (t := 40) rfl ?_); refine Step.freshAlloc rfl rfl (Duo.alloc_agg Duo.zero_two) ?_; intro g15 w2 b hg hb; replace ST := Lib.hid (ST.out.made b hg hb); clear b hb hg)
    | ((with_reducible refine Step.gate_store (t := 40) rfl ?_); refine Step.storeAll (vs := #[.pointer (some ⟨h1, 0, none⟩), .pointer (some ⟨h2, 0, none⟩)]) ST.out.kn.at0 rfl rfl rfl rfl rfl size_two rfl rfl ?_; intro w3 nb m; replace ST := Lib.hid (ST.out.set (ST.out.kn.set0 nb m) m ⟨_, List.mem_of_getElem? (i := 0) rfl, rfl⟩ rfl); clear nb m)
    | ((with_reducible refine Step.gate_load (t := 25) rfl ?_); refine Step.loadAll ST.out.kn.at4 rfl rfl rfl Tryz.underlying25 rfl (size_hart _) ?_)
    | (go_at_call 23; (with_reducible refine (TS.out _ _ _ _ _ _ ST.out.core1).mono ?_); rintro e w10 ⟨rfl, F3, hk, m, hF⟩; replace ST := Lib.hid (ST.out.step1 hk m hF); clear hk m hF)
    | ((with_reducible refine Step.gate_alloc (t := 25) rfl ?_); refine Step.freshAlloc rfl rfl (alloc_agg zero_hart) ?_; intro g17 w2 b hg hb; replace ST := Lib.hid (ST.out.made b hg hb); clear b hb hg)
    | ((with_reducible refine Step.gate_alloc (t := 46) rfl ?_); refine Step.freshAlloc rfl rfl (alloc_agg zero_ev) ?_; intro g18 w2 b hg hb; replace ST := Lib.hid (ST.out.made b hg hb); clear b hb hg)
    | ((with_reducible refine Step.gate_store (t := 25) rfl ?_); refine Step.storeAll ST.out.kn.at1 rfl rfl rfl rfl rfl (size_hart _) rfl (hc_all _) ?_; intro w3 nb m; replace ST := Lib.hid (ST.out.set (ST.out.kn.set1 nb m) m ⟨_, List.mem_of_getElem? (i := 1) rfl, rfl⟩ rfl); clear nb m)
    | ((with_reducible refine Step.gate_store (t := 46) rfl ?_); refine Step.storeAll (vs := #[.int .i64 1, .int .i64 0, .int .u64 0, .int .u64 0, .bool false, .bool false]) ST.out.kn.at0 rfl rfl rfl rfl rfl size_ev rfl rfl ?_; intro w3 nb m; replace ST := Lib.hid (ST.out.set (ST.out.kn.set0 nb m) m ⟨_, List.mem_of_getElem? (i := 0) rfl, rfl⟩ rfl); clear nb m)
    | ((with_reducible refine Step.gate_load (t := 46) rfl ?_); refine Step.loadAll ST.out.kn.at0 rfl rfl rfl Tryz.underlying46 rfl size_ev ?_)
    | ((with_reducible refine Step.gate_load (t := 22) rfl ?_); refine Step.loadG ST.out.kn.at1 rfl rfl rfl pl_u64 r43 ?_)
    | ((with_reducible refine Step.gate_load (t := 22) rfl ?_); refine Step.loadG ST.out.kn.at1 rfl rfl rfl pl_u64 r44 ?_)
    | ((with_reducible refine Step.gate_load (t := 4) rfl ?_); refine Step.loadG ST.out.kn.at1 rfl rfl rfl pl_bool r33 ?_)
    | ((with_reducible refine Step.gate_load (t := 4) rfl ?_); refine Step.loadG ST.out.kn.at1 rfl rfl rfl pl_bool r36 ?_)
    | ((with_reducible refine Step.gate_load (t := 23) rfl ?_); refine loadMidW ST.out.kn.at1 rfl rfl rfl rx1 Tryz.underlying23 rfl (size_arr _) ?_)
    | ((with_reducible refine Step.gate_load (t := 23) rfl ?_); refine loadMidW ST.out.kn.at5 rfl rfl rfl rx2 Tryz.underlying23 rfl (size_arr _) ?_)
    | ((with_reducible refine gate_bin (t := 23) rfl ?_); refine valueW (v := .bool true) rfl (eql_arr rfl rfl rfl _) ?_)
    | ((with_reducible refine Step.gate_load (t := 40) rfl ?_); refine loadAllW ST.out.kn.at2 rfl rfl rfl Tryz.underlying40 rfl size_two ?_)
    | (go_at_call 26; (with_reducible refine (same_dk ST.out).mono ?_); rintro e w' ⟨rfl, hb⟩; replace ST := Lib.hid (ST.out.call hb); clear hb)
    | (go_at_call 15; (with_reducible refine (awake_any _).mono ?_); rintro e w' ⟨rfl, hb⟩; replace ST := Lib.hid (ST.out.call hb); clear hb))
  all_goals go_ret
  all_goals exact ⟨rfl, ST.out.below⟩
set_option maxHeartbeats 8000000 in
theorem usr_ca (h C H2 : Hrt) (kd ci fi ri : Int) (u : Int) (q fn : Int) (hq : IntKind.i64.wrap (1 + q) = fn) (p n1 : Int) (hp : (p == 3073) = false) (TP2 : Hid (∀ w, Calls Tryz.prog 25 #[.int .i64 ci, .int .i64 4096] w fun e w' => e = .returned (.int .i64 p) ∧ w = w')) (TP3 : Hid (∀ w, Calls Tryz.prog 25 #[.int .i64 fi, .int .i64 3] w fun e w' => e = .returned (.int .i64 q) ∧ w = w')) (TP4 : Hid (∀ w, Calls Tryz.prog 25 #[.int .i64 ri, .int .i64 32] w fun e w' => e = .returned (.int .i64 n1) ∧ w = w')) (TP1 : Hid (∀ w, Calls Tryz.prog 25 #[.int .i64 kd, .int .i64 4] w fun e w' => e = .returned (.int .i64 3) ∧ w = w')) (e32 : IntKind.u64.wrap u = u)
    (TC0 : Hid (∀ w, Calls Tryz.prog 24 #[.agg (hc h)] w fun e w' => e = .returned (.agg (hc C)) ∧ Below w.heap.size w w'))
    (TE : Hid (∀ W, Calls Tryz.prog 27 #[.agg #[.int .i64 13, .int .i64 fn, .int .i64 9, .int .i64 n1, .int .i64 0, .int .i64 p, .int .i64 0, .bool false]] W fun e w' => e = .returned (.tuple #[.int .u32 u, .bool true]) ∧ Below W.heap.size W w'))
    (TO : Hid (∀ W, Calls Tryz.prog 22 #[.agg #[.int .i64 13, .int .i64 fn, .int .i64 9, .int .i64 n1, .int .i64 0, .int .i64 p, .int .i64 0, .bool false], .slice none 0 0] W fun e w' => ∃ gc gt h1 h2 F1 F2, e = .returned (.tuple #[.pointer (some ⟨gc, 0, none⟩), .agg #[.pointer (some ⟨h1, 0, none⟩), .pointer (some ⟨h2, 0, none⟩)], .bool true]) ∧ DK W w' h1 h2 2147483648 1 (wr (cm 1 (fun _ => (0, 0)) 0) 0 4 u) (wr (cm 1 (fun _ => (0, 0)) 0) 0 4 u) F1 F2 ((gc, ccg h1 (.pointer (some ⟨gt, 0, none⟩)) 0 0 0 0 (.map none), TC) :: [])))
    (TS : Hid (∀ (X : World) (gc gm : Nat) (tv : Value) (m0 : Nat → Int) (F : Nat → Prop), Kor X gc gm tv 0 2147483648 1 (wr m0 0 4 u) F → Calls Tryz.prog 23 #[.pointer (some ⟨gc, 0, none⟩), .agg (hc { C with user := true }), .int .u64 7] X fun e w' => e = .returned (.tuple #[.agg (hc H2), .agg #[.int .i64 1, .int .i64 0, .int .u64 0, .int .u64 0, .bool false, .bool false]]) ∧ ∃ F', Kor w' gc gm tv 0 2147483648 1 (wr m0 0 4 u) F' ∧ Mod (fun k => k = gc ∨ F k) X w' ∧ ∀ k, F' k → F k ∨ X.heap.size ≤ k))
    (r43 : (hc H2)[43]? = some (.int .u64 2)) (r44 : (hc H2)[44]? = some (.int .u64 u)) (r33 : (hc H2)[33]? = some (.bool false)) (r36 : (hc H2)[36]? = some (.bool false)) (rx1 : Row (hc H2) 0 (xa C.x)) (rx2 : Row (hc { C with user := true }) 0 (xa C.x)) (W : World) :
    Calls Tryz.prog 12 #[.agg (hc h), .int .i64 kd, .int .i64 ci, .int .i64 fi, .int .i64 ri] W fun e w' => e = .returned (.bool true) ∧ Below W.heap.size W w' := by
  go_enter Tryz.func12, Tryz.ntmps12
  have ST := Lib.hid (Kn.nil (S := Step.Nil) (W := W))
  go_wp2_with (first
    | ((with_reducible refine Step.gate_box (t := 25) rfl ?_); refine Step.fresh (cs := hc h) (T := 25) rfl ?hr ?_; (case hr => first | (go_simp; done) | (go_simp; rfl)); intro g5 w1 b hg hb; replace ST := Lib.hid (ST.out.made b hg hb); clear b hb; clear hg)
    | ((with_reducible refine Step.gate_load (t := 25) rfl ?_); refine Step.loadAll ST.out.at0 rfl rfl rfl Tryz.underlying25 rfl (size_hart _) ?_)
    | (go_at_call 24; (with_reducible refine (TC0.out _).mono ?_); rintro e w' ⟨rfl, hb⟩; replace ST := Lib.hid (ST.out.call hb); clear hb)
    | ((with_reducible refine Step.gate_store (t := 25) rfl ?_); refine Step.storeAll ST.out.at0 rfl rfl rfl rfl rfl (size_hart _) rfl (hc_all _) ?_; intro w3 nb m; replace ST := Lib.hid (ST.out.set0 nb m); clear nb m)
    | ((with_reducible refine Step.gate_store (t := 4) rfl ?_); refine Step.store ST.out.at0 rfl rfl rfl rfl rfl pl_bool rfl rfl ?_; intro w3 nb m; simp [go_sem, set_user] at nb; replace ST := Lib.hid (ST.out.set0 nb m); clear nb m)
    | ((with_reducible refine Step.gate_build (t := 53) rfl ?_); refine Step.freshSlice (cs := #[.int .i64 18, .int .i64 19, .int .i64 20, .int .i64 13]) (T := 3) (n := 4) (m := 4) rfl ?hr ?_; (case hr => first | (go_simp; done) | (go_simp; rfl)); intro gs w1 b hg hb; replace ST := Lib.hid (ST.out.made b hg hb); clear b hg hb)
    | (go_at_call 25; (with_reducible refine (TP1.out _).mono ?_); rintro e w' ⟨rfl, rfl⟩)
    | (go_at_call 25; (with_reducible refine (TP2.out _).mono ?_); rintro e w' ⟨rfl, rfl⟩)
    | (go_at_call 25; (with_reducible refine (TP3.out _).mono ?_); rintro e w' ⟨rfl, rfl⟩)
    | (go_at_call 25; (with_reducible refine (TP4.out _).mono ?_); rintro e w' ⟨rfl, rfl⟩)
    | ((with_reducible refine Step.gate_load (t := 3) rfl ?_); refine Step.loadG ST.out.at0 rfl rfl rfl pl_int rfl ?_)
    | ((with_reducible refine Step.gate_alloc (t := 44) rfl ?_); refine Step.freshAlloc rfl rfl (alloc_agg zero_inst) ?_; intro g11 w2 b hg hb; replace ST := Lib.hid (ST.out.made b hg hb); clear b hb hg)
    | ((with_reducible refine Step.gate_store (t := 44) rfl ?_); refine Step.storeAll ST.out.at0 rfl rfl rfl rfl rfl size_inst rfl rfl ?_; intro w3 nb m; replace ST := Lib.hid (ST.out.set0 nb m); clear nb m)
    | ((with_reducible refine Step.gate_load (t := 44) rfl ?_); refine Step.loadAll ST.out.at0 rfl rfl rfl Tryz.underlying44 rfl size_inst ?_)
    | ((with_reducible refine Step.gate_store (t := 3) rfl ?_); refine Step.store ST.out.at0 rfl rfl rfl rfl rfl pl_int rfl rfl ?_; intro w3 nb m; simp only [List.setIfInBounds_toArray, List.set_cons_zero, List.set_cons_succ] at nb; replace ST := Lib.hid (ST.out.set0 nb m); clear nb m)
    | (go_at_call 27; (with_reducible refine (TE.out _).mono ?_); rintro e w' ⟨rfl, hb⟩; replace ST := Lib.hid (ST.out.call hb); clear hb)
    | (go_at_call 22; (with_reducible refine (TO.out _).mono ?_); rintro e w9 ⟨gc, gt, h1, h2, F1, F2, rfl, d⟩; replace ST := Lib.hid (DK.join ST.out d); clear d)
    | ((with_reducible refine Step.gate_alloc (t := 40) rfl ?_); refine Step.freshAlloc rfl rfl (Duo.alloc_agg Duo.zero_two) ?_; intro g15 w2 b hg hb; replace ST := Lib.hid (ST.out.made b hg hb); clear b hb hg)
    | ((with_reducible refine Step.gate_store (t := 40) rfl ?_); refine Step.storeAll (vs := #[.pointer (some ⟨h1, 0, none⟩), .pointer (some ⟨h2, 0, none⟩)]) ST.out.kn.at0 rfl rfl rfl rfl rfl size_two rfl rfl ?_; intro w3 nb m; replace ST := Lib.hid (ST.out.set (ST.out.kn.set0 nb m) m ⟨_, List.mem_of_getElem? (i := 0) rfl, rfl⟩ rfl); clear nb m)
    | ((with_reducible refine Step.gate_load (t := 25) rfl ?_); refine Step.loadAll ST.out.kn.at4 rfl rfl rfl Tryz.underlying25 rfl (size_hart _) ?_)
    | (go_at_call 23; (with_reducible refine (TS.out _ _ _ _ _ _ ST.out.core1).mono ?_); rintro e w10 ⟨rfl, F3, hk, m, hF⟩; replace ST := Lib.hid (ST.out.step1 hk m hF); clear hk m hF)
    | ((with_reducible refine Step.gate_alloc (t := 25) rfl ?_); refine Step.freshAlloc rfl rfl (alloc_agg zero_hart) ?_; intro g17 w2 b hg hb; replace ST := Lib.hid (ST.out.made b hg hb); clear b hb hg)
    | ((with_reducible refine Step.gate_alloc (t := 46) rfl ?_); refine Step.freshAlloc rfl rfl (alloc_agg zero_ev) ?_; intro g18 w2 b hg hb; replace ST := Lib.hid (ST.out.made b hg hb); clear b hb hg)
    | ((with_reducible refine Step.gate_store (t := 25) rfl ?_); refine Step.storeAll ST.out.kn.at1 rfl rfl rfl rfl rfl (size_hart _) rfl (hc_all _) ?_; intro w3 nb m; replace ST := Lib.hid (ST.out.set (ST.out.kn.set1 nb m) m ⟨_, List.mem_of_getElem? (i := 1) rfl, rfl⟩ rfl); clear nb m)
    | ((with_reducible refine Step.gate_store (t := 46) rfl ?_); refine Step.storeAll (vs := #[.int .i64 1, .int .i64 0, .int .u64 0, .int .u64 0, .bool false, .bool false]) ST.out.kn.at0 rfl rfl rfl rfl rfl size_ev rfl rfl ?_; intro w3 nb m; replace ST := Lib.hid (ST.out.set (ST.out.kn.set0 nb m) m ⟨_, List.mem_of_getElem? (i := 0) rfl, rfl⟩ rfl); clear nb m)
    | ((with_reducible refine Step.gate_load (t := 46) rfl ?_); refine Step.loadAll ST.out.kn.at0 rfl rfl rfl Tryz.underlying46 rfl size_ev ?_)
    | ((with_reducible refine Step.gate_load (t := 22) rfl ?_); refine Step.loadG ST.out.kn.at1 rfl rfl rfl pl_u64 r43 ?_)
    | ((with_reducible refine Step.gate_load (t := 22) rfl ?_); refine Step.loadG ST.out.kn.at1 rfl rfl rfl pl_u64 r44 ?_)
    | ((with_reducible refine Step.gate_load (t := 4) rfl ?_); refine Step.loadG ST.out.kn.at1 rfl rfl rfl pl_bool r33 ?_)
    | ((with_reducible refine Step.gate_load (t := 4) rfl ?_); refine Step.loadG ST.out.kn.at1 rfl rfl rfl pl_bool r36 ?_)
    | ((with_reducible refine Step.gate_load (t := 23) rfl ?_); refine loadMidW ST.out.kn.at1 rfl rfl rfl rx1 Tryz.underlying23 rfl (size_arr _) ?_)
    | ((with_reducible refine Step.gate_load (t := 23) rfl ?_); refine loadMidW ST.out.kn.at5 rfl rfl rfl rx2 Tryz.underlying23 rfl (size_arr _) ?_)
    | ((with_reducible refine gate_bin (t := 23) rfl ?_); refine valueW (v := .bool true) rfl (eql_arr rfl rfl rfl _) ?_)
    | ((with_reducible refine Step.gate_load (t := 40) rfl ?_); refine loadAllW ST.out.kn.at2 rfl rfl rfl Tryz.underlying40 rfl size_two ?_)
    | (go_at_call 26; (with_reducible refine (same_dk ST.out).mono ?_); rintro e w' ⟨rfl, hb⟩; replace ST := Lib.hid (ST.out.call hb); clear hb)
    | (go_at_call 15; (with_reducible refine (awake_any _).mono ?_); rintro e w' ⟨rfl, hb⟩; replace ST := Lib.hid (ST.out.call hb); clear hb))
  all_goals go_ret
  all_goals exact ⟨rfl, ST.out.below⟩
set_option maxHeartbeats 8000000 in
theorem usr_cb (h C H2 : Hrt) (kd ci fi ri : Int) (u : Int) (q fn : Int) (hq : IntKind.i64.wrap (1 + q) = fn) (n1 : Int) (hf1 : (fn != 1) = false) (TP2 : Hid (∀ w, Calls Tryz.prog 25 #[.int .i64 ci, .int .i64 4096] w fun e w' => e = .returned (.int .i64 3073) ∧ w = w')) (TP3 : Hid (∀ w, Calls Tryz.prog 25 #[.int .i64 fi, .int .i64 3] w fun e w' => e = .returned (.int .i64 q) ∧ w = w')) (TP4 : Hid (∀ w, Calls Tryz.prog 25 #[.int .i64 ri, .int .i64 32] w fun e w' => e = .returned (.int .i64 n1) ∧ w = w')) (TP1 : Hid (∀ w, Calls Tryz.prog 25 #[.int .i64 kd, .int .i64 4] w fun e w' => e = .returned (.int .i64 3) ∧ w = w')) (e32 : IntKind.u64.wrap u = u)
    (TC0 : Hid (∀ w, Calls Tryz.prog 24 #[.agg (hc h)] w fun e w' => e = .returned (.agg (hc C)) ∧ Below w.heap.size w w'))
    (TE : Hid (∀ W, Calls Tryz.prog 27 #[.agg #[.int .i64 13, .int .i64 fn, .int .i64 9, .int .i64 n1, .int .i64 0, .int .i64 3073, .int .i64 0, .bool false]] W fun e w' => e = .returned (.tuple #[.int .u32 u, .bool true]) ∧ Below W.heap.size W w'))
    (TO : Hid (∀ W, Calls Tryz.prog 22 #[.agg #[.int .i64 13, .int .i64 fn, .int .i64 9, .int .i64 n1, .int .i64 0, .int .i64 3073, .int .i64 0, .bool false], .slice none 0 0] W fun e w' => ∃ gc gt h1 h2 F1 F2, e = .returned (.tuple #[.pointer (some ⟨gc, 0, none⟩), .agg #[.pointer (some ⟨h1, 0, none⟩), .pointer (some ⟨h2, 0, none⟩)], .bool true]) ∧ DK W w' h1 h2 2147483648 1 (wr (cm 1 (fun _ => (0, 0)) 0) 0 4 u) (wr (cm 1 (fun _ => (0, 0)) 0) 0 4 u) F1 F2 ((gc, ccg h1 (.pointer (some ⟨gt, 0, none⟩)) 0 0 0 0 (.map none), TC) :: [])))
    (TS : Hid (∀ (X : World) (gc gm : Nat) (tv : Value) (m0 : Nat → Int) (F : Nat → Prop), Kor X gc gm tv 0 2147483648 1 (wr m0 0 4 u) F → Calls Tryz.prog 23 #[.pointer (some ⟨gc, 0, none⟩), .agg (hc { C with user := true }), .int .u64 7] X fun e w' => e = .returned (.tuple #[.agg (hc H2), .agg #[.int .i64 1, .int .i64 0, .int .u64 0, .int .u64 0, .bool false, .bool false]]) ∧ ∃ F', Kor w' gc gm tv 0 2147483648 1 (wr m0 0 4 u) F' ∧ Mod (fun k => k = gc ∨ F k) X w' ∧ ∀ k, F' k → F k ∨ X.heap.size ≤ k))
    (r43 : (hc H2)[43]? = some (.int .u64 2)) (r44 : (hc H2)[44]? = some (.int .u64 u)) (r33 : (hc H2)[33]? = some (.bool false)) (r36 : (hc H2)[36]? = some (.bool false)) (rx1 : Row (hc H2) 0 (xa C.x)) (rx2 : Row (hc { C with user := true }) 0 (xa C.x)) (W : World) :
    Calls Tryz.prog 12 #[.agg (hc h), .int .i64 kd, .int .i64 ci, .int .i64 fi, .int .i64 ri] W fun e w' => e = .returned (.bool true) ∧ Below W.heap.size W w' := by
  go_enter Tryz.func12, Tryz.ntmps12
  have ST := Lib.hid (Kn.nil (S := Step.Nil) (W := W))
  go_wp2_with (first
    | ((with_reducible refine Step.gate_box (t := 25) rfl ?_); refine Step.fresh (cs := hc h) (T := 25) rfl ?hr ?_; (case hr => first | (go_simp; done) | (go_simp; rfl)); intro g5 w1 b hg hb; replace ST := Lib.hid (ST.out.made b hg hb); clear b hb; clear hg)
    | ((with_reducible refine Step.gate_load (t := 25) rfl ?_); refine Step.loadAll ST.out.at0 rfl rfl rfl Tryz.underlying25 rfl (size_hart _) ?_)
    | (go_at_call 24; (with_reducible refine (TC0.out _).mono ?_); rintro e w' ⟨rfl, hb⟩; replace ST := Lib.hid (ST.out.call hb); clear hb)
    | ((with_reducible refine Step.gate_store (t := 25) rfl ?_); refine Step.storeAll ST.out.at0 rfl rfl rfl rfl rfl (size_hart _) rfl (hc_all _) ?_; intro w3 nb m; replace ST := Lib.hid (ST.out.set0 nb m); clear nb m)
    | ((with_reducible refine Step.gate_store (t := 4) rfl ?_); refine Step.store ST.out.at0 rfl rfl rfl rfl rfl pl_bool rfl rfl ?_; intro w3 nb m; simp [go_sem, set_user] at nb; replace ST := Lib.hid (ST.out.set0 nb m); clear nb m)
    | ((with_reducible refine Step.gate_build (t := 53) rfl ?_); refine Step.freshSlice (cs := #[.int .i64 18, .int .i64 19, .int .i64 20, .int .i64 13]) (T := 3) (n := 4) (m := 4) rfl ?hr ?_; (case hr => first | (go_simp; done) | (go_simp; rfl)); intro gs w1 b hg hb; replace ST := Lib.hid (ST.out.made b hg hb); clear b hg hb)
    | (go_at_call 25; (with_reducible refine (TP1.out _).mono ?_); rintro e w' ⟨rfl, rfl⟩)
    | (go_at_call 25; (with_reducible refine (TP2.out _).mono ?_); rintro e w' ⟨rfl, rfl⟩)
    | (go_at_call 25; (with_reducible refine (TP3.out _).mono ?_); rintro e w' ⟨rfl, rfl⟩)
    | (go_at_call 25; (with_reducible refine (TP4.out _).mono ?_); rintro e w' ⟨rfl, rfl⟩)
    | ((with_reducible refine Step.gate_load (t := 3) rfl ?_); refine Step.loadG ST.out.at0 rfl rfl rfl pl_int rfl ?_)
    | ((with_reducible refine Step.gate_alloc (t := 44) rfl ?_); refine Step.freshAlloc rfl rfl (alloc_agg zero_inst) ?_; intro g11 w2 b hg hb; replace ST := Lib.hid (ST.out.made b hg hb); clear b hb hg)
    | ((with_reducible refine Step.gate_store (t := 44) rfl ?_); refine Step.storeAll ST.out.at0 rfl rfl rfl rfl rfl size_inst rfl rfl ?_; intro w3 nb m; replace ST := Lib.hid (ST.out.set0 nb m); clear nb m)
    | ((with_reducible refine Step.gate_load (t := 44) rfl ?_); refine Step.loadAll ST.out.at0 rfl rfl rfl Tryz.underlying44 rfl size_inst ?_)
    | ((with_reducible refine Step.gate_store (t := 3) rfl ?_); refine Step.store ST.out.at0 rfl rfl rfl rfl rfl pl_int rfl rfl ?_; intro w3 nb m; simp only [List.setIfInBounds_toArray, List.set_cons_zero, List.set_cons_succ] at nb; replace ST := Lib.hid (ST.out.set0 nb m); clear nb m)
    | (go_at_call 27; (with_reducible refine (TE.out _).mono ?_); rintro e w' ⟨rfl, hb⟩; replace ST := Lib.hid (ST.out.call hb); clear hb)
    | (go_at_call 22; (with_reducible refine (TO.out _).mono ?_); rintro e w9 ⟨gc, gt, h1, h2, F1, F2, rfl, d⟩; replace ST := Lib.hid (DK.join ST.out d); clear d)
    | ((with_reducible refine Step.gate_alloc (t := 40) rfl ?_); refine Step.freshAlloc rfl rfl (Duo.alloc_agg Duo.zero_two) ?_; intro g15 w2 b hg hb; replace ST := Lib.hid (ST.out.made b hg hb); clear b hb hg)
    | ((with_reducible refine Step.gate_store (t := 40) rfl ?_); refine Step.storeAll (vs := #[.pointer (some ⟨h1, 0, none⟩), .pointer (some ⟨h2, 0, none⟩)]) ST.out.kn.at0 rfl rfl rfl rfl rfl size_two rfl rfl ?_; intro w3 nb m; replace ST := Lib.hid (ST.out.set (ST.out.kn.set0 nb m) m ⟨_, List.mem_of_getElem? (i := 0) rfl, rfl⟩ rfl); clear nb m)
    | ((with_reducible refine Step.gate_load (t := 25) rfl ?_); refine Step.loadAll ST.out.kn.at4 rfl rfl rfl Tryz.underlying25 rfl (size_hart _) ?_)
    | (go_at_call 23; (with_reducible refine (TS.out _ _ _ _ _ _ ST.out.core1).mono ?_); rintro e w10 ⟨rfl, F3, hk, m, hF⟩; replace ST := Lib.hid (ST.out.step1 hk m hF); clear hk m hF)
    | ((with_reducible refine Step.gate_alloc (t := 25) rfl ?_); refine Step.freshAlloc rfl rfl (alloc_agg zero_hart) ?_; intro g17 w2 b hg hb; replace ST := Lib.hid (ST.out.made b hg hb); clear b hb hg)
    | ((with_reducible refine Step.gate_alloc (t := 46) rfl ?_); refine Step.freshAlloc rfl rfl (alloc_agg zero_ev) ?_; intro g18 w2 b hg hb; replace ST := Lib.hid (ST.out.made b hg hb); clear b hb hg)
    | ((with_reducible refine Step.gate_store (t := 25) rfl ?_); refine Step.storeAll ST.out.kn.at1 rfl rfl rfl rfl rfl (size_hart _) rfl (hc_all _) ?_; intro w3 nb m; replace ST := Lib.hid (ST.out.set (ST.out.kn.set1 nb m) m ⟨_, List.mem_of_getElem? (i := 1) rfl, rfl⟩ rfl); clear nb m)
    | ((with_reducible refine Step.gate_store (t := 46) rfl ?_); refine Step.storeAll (vs := #[.int .i64 1, .int .i64 0, .int .u64 0, .int .u64 0, .bool false, .bool false]) ST.out.kn.at0 rfl rfl rfl rfl rfl size_ev rfl rfl ?_; intro w3 nb m; replace ST := Lib.hid (ST.out.set (ST.out.kn.set0 nb m) m ⟨_, List.mem_of_getElem? (i := 0) rfl, rfl⟩ rfl); clear nb m)
    | ((with_reducible refine Step.gate_load (t := 46) rfl ?_); refine Step.loadAll ST.out.kn.at0 rfl rfl rfl Tryz.underlying46 rfl size_ev ?_)
    | ((with_reducible refine Step.gate_load (t := 22) rfl ?_); refine Step.loadG ST.out.kn.at1 rfl rfl rfl pl_u64 r43 ?_)
    | ((with_reducible refine Step.gate_load (t := 22) rfl ?_); refine Step.loadG ST.out.kn.at1 rfl rfl rfl pl_u64 r44 ?_)
    | ((with_reducible refine Step.gate_load (t := 4) rfl ?_); refine Step.loadG ST.out.kn.at1 rfl rfl rfl pl_bool r33 ?_)
    | ((with_reducible refine Step.gate_load (t := 4) rfl ?_); refine Step.loadG ST.out.kn.at1 rfl rfl rfl pl_bool r36 ?_)
    | ((with_reducible refine Step.gate_load (t := 23) rfl ?_); refine loadMidW ST.out.kn.at1 rfl rfl rfl rx1 Tryz.underlying23 rfl (size_arr _) ?_)
    | ((with_reducible refine Step.gate_load (t := 23) rfl ?_); refine loadMidW ST.out.kn.at5 rfl rfl rfl rx2 Tryz.underlying23 rfl (size_arr _) ?_)
    | ((with_reducible refine gate_bin (t := 23) rfl ?_); refine valueW (v := .bool true) rfl (eql_arr rfl rfl rfl _) ?_)
    | ((with_reducible refine Step.gate_load (t := 40) rfl ?_); refine loadAllW ST.out.kn.at2 rfl rfl rfl Tryz.underlying40 rfl size_two ?_)
    | (go_at_call 26; (with_reducible refine (same_dk ST.out).mono ?_); rintro e w' ⟨rfl, hb⟩; replace ST := Lib.hid (ST.out.call hb); clear hb)
    | (go_at_call 15; (with_reducible refine (awake_any _).mono ?_); rintro e w' ⟨rfl, hb⟩; replace ST := Lib.hid (ST.out.call hb); clear hb))
  all_goals go_ret
  all_goals exact ⟨rfl, ST.out.below⟩
set_option maxHeartbeats 8000000 in
theorem usr_cc (h C H2 : Hrt) (kd ci fi ri : Int) (u : Int) (q fn : Int) (hq : IntKind.i64.wrap (1 + q) = fn) (hf1 : (fn != 1) = true) (TP2 : Hid (∀ w, Calls Tryz.prog 25 #[.int .i64 ci, .int .i64 4096] w fun e w' => e = .returned (.int .i64 3073) ∧ w = w')) (TP3 : Hid (∀ w, Calls Tryz.prog 25 #[.int .i64 fi, .int .i64 3] w fun e w' => e = .returned (.int .i64 q) ∧ w = w')) (TP4 : Hid (∀ w, Calls Tryz.prog 25 #[.int .i64 ri, .int .i64 32] w fun e w' => e = .returned (.int .i64 0) ∧ w = w')) (TP1 : Hid (∀ w, Calls Tryz.prog 25 #[.int .i64 kd, .int .i64 4] w fun e w' => e = .returned (.int .i64 3) ∧ w = w')) (e32 : IntKind.u64.wrap u = u)
    (TC0 : Hid (∀ w, Calls Tryz.prog 24 #[.agg (hc h)] w fun e w' => e = .returned (.agg (hc C)) ∧ Below w.heap.size w w'))
    (TE : Hid (∀ W, Calls Tryz.prog 27 #[.agg #[.int .i64 13, .int .i64 fn, .int .i64 9, .int .i64 0, .int .i64 0, .int .i64 256, .int .i64 0, .bool false]] W fun e w' => e = .returned (.tuple #[.int .u32 u, .bool true]) ∧ Below W.heap.size W w'))
    (TO : Hid (∀ W, Calls Tryz.prog 22 #[.agg #[.int .i64 13, .int .i64 fn, .int .i64 9, .int .i64 0, .int .i64 0, .int .i64 256, .int .i64 0, .bool false], .slice none 0 0] W fun e w' => ∃ gc gt h1 h2 F1 F2, e = .returned (.tuple #[.pointer (some ⟨gc, 0, none⟩), .agg #[.pointer (some ⟨h1, 0, none⟩), .pointer (some ⟨h2, 0, none⟩)], .bool true]) ∧ DK W w' h1 h2 2147483648 1 (wr (cm 1 (fun _ => (0, 0)) 0) 0 4 u) (wr (cm 1 (fun _ => (0, 0)) 0) 0 4 u) F1 F2 ((gc, ccg h1 (.pointer (some ⟨gt, 0, none⟩)) 0 0 0 0 (.map none), TC) :: [])))
    (TS : Hid (∀ (X : World) (gc gm : Nat) (tv : Value) (m0 : Nat → Int) (F : Nat → Prop), Kor X gc gm tv 0 2147483648 1 (wr m0 0 4 u) F → Calls Tryz.prog 23 #[.pointer (some ⟨gc, 0, none⟩), .agg (hc { C with user := true }), .int .u64 7] X fun e w' => e = .returned (.tuple #[.agg (hc H2), .agg #[.int .i64 1, .int .i64 0, .int .u64 0, .int .u64 0, .bool false, .bool false]]) ∧ ∃ F', Kor w' gc gm tv 0 2147483648 1 (wr m0 0 4 u) F' ∧ Mod (fun k => k = gc ∨ F k) X w' ∧ ∀ k, F' k → F k ∨ X.heap.size ≤ k))
    (r43 : (hc H2)[43]? = some (.int .u64 2)) (r44 : (hc H2)[44]? = some (.int .u64 u)) (r33 : (hc H2)[33]? = some (.bool false)) (r36 : (hc H2)[36]? = some (.bool false)) (rx1 : Row (hc H2) 0 (xa C.x)) (rx2 : Row (hc { C with user := true }) 0 (xa C.x)) (W : World) :
    Calls Tryz.prog 12 #[.agg (hc h), .int .i64 kd, .int .i64 ci, .int .i64 fi, .int .i64 ri] W fun e w' => e = .returned (.bool true) ∧ Below W.heap.size W w' := by
  go_enter Tryz.func12, Tryz.ntmps12
  have ST := Lib.hid (Kn.nil (S := Step.Nil) (W := W))
  go_wp2_with (first
    | ((with_reducible refine Step.gate_box (t := 25) rfl ?_); refine Step.fresh (cs := hc h) (T := 25) rfl ?hr ?_; (case hr => first | (go_simp; done) | (go_simp; rfl)); intro g5 w1 b hg hb; replace ST := Lib.hid (ST.out.made b hg hb); clear b hb; clear hg)
    | ((with_reducible refine Step.gate_load (t := 25) rfl ?_); refine Step.loadAll ST.out.at0 rfl rfl rfl Tryz.underlying25 rfl (size_hart _) ?_)
    | (go_at_call 24; (with_reducible refine (TC0.out _).mono ?_); rintro e w' ⟨rfl, hb⟩; replace ST := Lib.hid (ST.out.call hb); clear hb)
    | ((with_reducible refine Step.gate_store (t := 25) rfl ?_); refine Step.storeAll ST.out.at0 rfl rfl rfl rfl rfl (size_hart _) rfl (hc_all _) ?_; intro w3 nb m; replace ST := Lib.hid (ST.out.set0 nb m); clear nb m)
    | ((with_reducible refine Step.gate_store (t := 4) rfl ?_); refine Step.store ST.out.at0 rfl rfl rfl rfl rfl pl_bool rfl rfl ?_; intro w3 nb m; simp [go_sem, set_user] at nb; replace ST := Lib.hid (ST.out.set0 nb m); clear nb m)
    | ((with_reducible refine Step.gate_build (t := 53) rfl ?_); refine Step.freshSlice (cs := #[.int .i64 18, .int .i64 19, .int .i64 20, .int .i64 13]) (T := 3) (n := 4) (m := 4) rfl ?hr ?_; (case hr => first | (go_simp; done) | (go_simp; rfl)); intro gs w1 b hg hb; replace ST := Lib.hid (ST.out.made b hg hb); clear b hg hb)
    | (go_at_call 25; (with_reducible refine (TP1.out _).mono ?_); rintro e w' ⟨rfl, rfl⟩)
    | (go_at_call 25; (with_reducible refine (TP2.out _).mono ?_); rintro e w' ⟨rfl, rfl⟩)
    | (go_at_call 25; (with_reducible refine (TP3.out _).mono ?_); rintro e w' ⟨rfl, rfl⟩)
    | (go_at_call 25; (with_reducible refine (TP4.out _).mono ?_); rintro e w' ⟨rfl, rfl⟩)
    | ((with_reducible refine Step.gate_load (t := 3) rfl ?_); refine Step.loadG ST.out.at0 rfl rfl rfl pl_int rfl ?_)
    | ((with_reducible refine Step.gate_alloc (t := 44) rfl ?_); refine Step.freshAlloc rfl rfl (alloc_agg zero_inst) ?_; intro g11 w2 b hg hb; replace ST := Lib.hid (ST.out.made b hg hb); clear b hb hg)
    | ((with_reducible refine Step.gate_store (t := 44) rfl ?_); refine Step.storeAll ST.out.at0 rfl rfl rfl rfl rfl size_inst rfl rfl ?_; intro w3 nb m; replace ST := Lib.hid (ST.out.set0 nb m); clear nb m)
    | ((with_reducible refine Step.gate_load (t := 44) rfl ?_); refine Step.loadAll ST.out.at0 rfl rfl rfl Tryz.underlying44 rfl size_inst ?_)
    | ((with_reducible refine Step.gate_store (t := 3) rfl ?_); refine Step.store ST.out.at0 rfl rfl rfl rfl rfl pl_int rfl rfl ?_; intro w3 nb m; simp only [List.setIfInBounds_toArray, List.set_cons_zero, List.set_cons_succ] at nb; replace ST := Lib.hid (ST.out.set0 nb m); clear nb m)
    | (go_at_call 27; (with_reducible refine (TE.out _).mono ?_); rintro e w' ⟨rfl, hb⟩; replace ST := Lib.hid (ST.out.call hb); clear hb)
    | (go_at_call 22; (with_reducible refine (TO.out _).mono ?_); rintro e w9 ⟨gc, gt, h1, h2, F1, F2, rfl, d⟩; replace ST := Lib.hid (DK.join ST.out d); clear d)
    | ((with_reducible refine Step.gate_alloc (t := 40) rfl ?_); refine Step.freshAlloc rfl rfl (Duo.alloc_agg Duo.zero_two) ?_; intro g15 w2 b hg hb; replace ST := Lib.hid (ST.out.made b hg hb); clear b hb hg)
    | ((with_reducible refine Step.gate_store (t := 40) rfl ?_); refine Step.storeAll (vs := #[.pointer (some ⟨h1, 0, none⟩), .pointer (some ⟨h2, 0, none⟩)]) ST.out.kn.at0 rfl rfl rfl rfl rfl size_two rfl rfl ?_; intro w3 nb m; replace ST := Lib.hid (ST.out.set (ST.out.kn.set0 nb m) m ⟨_, List.mem_of_getElem? (i := 0) rfl, rfl⟩ rfl); clear nb m)
    | ((with_reducible refine Step.gate_load (t := 25) rfl ?_); refine Step.loadAll ST.out.kn.at4 rfl rfl rfl Tryz.underlying25 rfl (size_hart _) ?_)
    | (go_at_call 23; (with_reducible refine (TS.out _ _ _ _ _ _ ST.out.core1).mono ?_); rintro e w10 ⟨rfl, F3, hk, m, hF⟩; replace ST := Lib.hid (ST.out.step1 hk m hF); clear hk m hF)
    | ((with_reducible refine Step.gate_alloc (t := 25) rfl ?_); refine Step.freshAlloc rfl rfl (alloc_agg zero_hart) ?_; intro g17 w2 b hg hb; replace ST := Lib.hid (ST.out.made b hg hb); clear b hb hg)
    | ((with_reducible refine Step.gate_alloc (t := 46) rfl ?_); refine Step.freshAlloc rfl rfl (alloc_agg zero_ev) ?_; intro g18 w2 b hg hb; replace ST := Lib.hid (ST.out.made b hg hb); clear b hb hg)
    | ((with_reducible refine Step.gate_store (t := 25) rfl ?_); refine Step.storeAll ST.out.kn.at1 rfl rfl rfl rfl rfl (size_hart _) rfl (hc_all _) ?_; intro w3 nb m; replace ST := Lib.hid (ST.out.set (ST.out.kn.set1 nb m) m ⟨_, List.mem_of_getElem? (i := 1) rfl, rfl⟩ rfl); clear nb m)
    | ((with_reducible refine Step.gate_store (t := 46) rfl ?_); refine Step.storeAll (vs := #[.int .i64 1, .int .i64 0, .int .u64 0, .int .u64 0, .bool false, .bool false]) ST.out.kn.at0 rfl rfl rfl rfl rfl size_ev rfl rfl ?_; intro w3 nb m; replace ST := Lib.hid (ST.out.set (ST.out.kn.set0 nb m) m ⟨_, List.mem_of_getElem? (i := 0) rfl, rfl⟩ rfl); clear nb m)
    | ((with_reducible refine Step.gate_load (t := 46) rfl ?_); refine Step.loadAll ST.out.kn.at0 rfl rfl rfl Tryz.underlying46 rfl size_ev ?_)
    | ((with_reducible refine Step.gate_load (t := 22) rfl ?_); refine Step.loadG ST.out.kn.at1 rfl rfl rfl pl_u64 r43 ?_)
    | ((with_reducible refine Step.gate_load (t := 22) rfl ?_); refine Step.loadG ST.out.kn.at1 rfl rfl rfl pl_u64 r44 ?_)
    | ((with_reducible refine Step.gate_load (t := 4) rfl ?_); refine Step.loadG ST.out.kn.at1 rfl rfl rfl pl_bool r33 ?_)
    | ((with_reducible refine Step.gate_load (t := 4) rfl ?_); refine Step.loadG ST.out.kn.at1 rfl rfl rfl pl_bool r36 ?_)
    | ((with_reducible refine Step.gate_load (t := 23) rfl ?_); refine loadMidW ST.out.kn.at1 rfl rfl rfl rx1 Tryz.underlying23 rfl (size_arr _) ?_)
    | ((with_reducible refine Step.gate_load (t := 23) rfl ?_); refine loadMidW ST.out.kn.at5 rfl rfl rfl rx2 Tryz.underlying23 rfl (size_arr _) ?_)
    | ((with_reducible refine gate_bin (t := 23) rfl ?_); refine valueW (v := .bool true) rfl (eql_arr rfl rfl rfl _) ?_)
    | ((with_reducible refine Step.gate_load (t := 40) rfl ?_); refine loadAllW ST.out.kn.at2 rfl rfl rfl Tryz.underlying40 rfl size_two ?_)
    | (go_at_call 26; (with_reducible refine (same_dk ST.out).mono ?_); rintro e w' ⟨rfl, hb⟩; replace ST := Lib.hid (ST.out.call hb); clear hb)
    | (go_at_call 15; (with_reducible refine (awake_any _).mono ?_); rintro e w' ⟨rfl, hb⟩; replace ST := Lib.hid (ST.out.call hb); clear hb))
  all_goals go_ret
  all_goals exact ⟨rfl, ST.out.below⟩
set_option maxHeartbeats 8000000 in
theorem usr_cd (h C H2 : Hrt) (kd ci fi ri : Int) (u : Int) (q fn : Int) (hq : IntKind.i64.wrap (1 + q) = fn) (n1 : Int) (hf1 : (fn != 1) = true) (hn1 : (n1 == 0) = false) (TP2 : Hid (∀ w, Calls Tryz.prog 25 #[.int .i64 ci, .int .i64 4096] w fun e w' => e = .returned (.int .i64 3073) ∧ w = w')) (TP3 : Hid (∀ w, Calls Tryz.prog 25 #[.int .i64 fi, .int .i64 3] w fun e w' => e = .returned (.int .i64 q) ∧ w = w')) (TP4 : Hid (∀ w, Calls Tryz.prog 25 #[.int .i64 ri, .int .i64 32] w fun e w' => e = .returned (.int .i64 n1) ∧ w = w')) (TP1 : Hid (∀ w, Calls Tryz.prog 25 #[.int .i64 kd, .int .i64 4] w fun e w' => e = .returned (.int .i64 3) ∧ w = w')) (e32 : IntKind.u64.wrap u = u)
    (TC0 : Hid (∀ w, Calls Tryz.prog 24 #[.agg (hc h)] w fun e w' => e = .returned (.agg (hc C)) ∧ Below w.heap.size w w'))
    (TE : Hid (∀ W, Calls Tryz.prog 27 #[.agg #[.int .i64 13, .int .i64 fn, .int .i64 9, .int .i64 n1, .int .i64 0, .int .i64 3073, .int .i64 0, .bool false]] W fun e w' => e = .returned (.tuple #[.int .u32 u, .bool true]) ∧ Below W.heap.size W w'))
    (TO : Hid (∀ W, Calls Tryz.prog 22 #[.agg #[.int .i64 13, .int .i64 fn, .int .i64 9, .int .i64 n1, .int .i64 0, .int .i64 3073, .int .i64 0, .bool false], .slice none 0 0] W fun e w' => ∃ gc gt h1 h2 F1 F2, e = .returned (.tuple #[.pointer (some ⟨gc, 0, none⟩), .agg #[.pointer (some ⟨h1, 0, none⟩), .pointer (some ⟨h2, 0, none⟩)], .bool true]) ∧ DK W w' h1 h2 2147483648 1 (wr (cm 1 (fun _ => (0, 0)) 0) 0 4 u) (wr (cm 1 (fun _ => (0, 0)) 0) 0 4 u) F1 F2 ((gc, ccg h1 (.pointer (some ⟨gt, 0, none⟩)) 0 0 0 0 (.map none), TC) :: [])))
    (TS : Hid (∀ (X : World) (gc gm : Nat) (tv : Value) (m0 : Nat → Int) (F : Nat → Prop), Kor X gc gm tv 0 2147483648 1 (wr m0 0 4 u) F → Calls Tryz.prog 23 #[.pointer (some ⟨gc, 0, none⟩), .agg (hc { C with user := true }), .int .u64 7] X fun e w' => e = .returned (.tuple #[.agg (hc H2), .agg #[.int .i64 1, .int .i64 0, .int .u64 0, .int .u64 0, .bool false, .bool false]]) ∧ ∃ F', Kor w' gc gm tv 0 2147483648 1 (wr m0 0 4 u) F' ∧ Mod (fun k => k = gc ∨ F k) X w' ∧ ∀ k, F' k → F k ∨ X.heap.size ≤ k))
    (r43 : (hc H2)[43]? = some (.int .u64 2)) (r44 : (hc H2)[44]? = some (.int .u64 u)) (r33 : (hc H2)[33]? = some (.bool false)) (r36 : (hc H2)[36]? = some (.bool false)) (rx1 : Row (hc H2) 0 (xa C.x)) (rx2 : Row (hc { C with user := true }) 0 (xa C.x)) (W : World) :
    Calls Tryz.prog 12 #[.agg (hc h), .int .i64 kd, .int .i64 ci, .int .i64 fi, .int .i64 ri] W fun e w' => e = .returned (.bool true) ∧ Below W.heap.size W w' := by
  go_enter Tryz.func12, Tryz.ntmps12
  have ST := Lib.hid (Kn.nil (S := Step.Nil) (W := W))
  go_wp2_with (first
    | ((with_reducible refine Step.gate_box (t := 25) rfl ?_); refine Step.fresh (cs := hc h) (T := 25) rfl ?hr ?_; (case hr => first | (go_simp; done) | (go_simp; rfl)); intro g5 w1 b hg hb; replace ST := Lib.hid (ST.out.made b hg hb); clear b hb; clear hg)
    | ((with_reducible refine Step.gate_load (t := 25) rfl ?_); refine Step.loadAll ST.out.at0 rfl rfl rfl Tryz.underlying25 rfl (size_hart _) ?_)
    | (go_at_call 24; (with_reducible refine (TC0.out _).mono ?_); rintro e w' ⟨rfl, hb⟩; replace ST := Lib.hid (ST.out.call hb); clear hb)
    | ((with_reducible refine Step.gate_store (t := 25) rfl ?_); refine Step.storeAll ST.out.at0 rfl rfl rfl rfl rfl (size_hart _) rfl (hc_all _) ?_; intro w3 nb m; replace ST := Lib.hid (ST.out.set0 nb m); clear nb m)
    | ((with_reducible refine Step.gate_store (t := 4) rfl ?_); refine Step.store ST.out.at0 rfl rfl rfl rfl rfl pl_bool rfl rfl ?_; intro w3 nb m; simp [go_sem, set_user] at nb; replace ST := Lib.hid (ST.out.set0 nb m); clear nb m)
    | ((with_reducible refine Step.gate_build (t := 53) rfl ?_); refine Step.freshSlice (cs := #[.int .i64 18, .int .i64 19, .int .i64 20, .int .i64 13]) (T := 3) (n := 4) (m := 4) rfl ?hr ?_; (case hr => first | (go_simp; done) | (go_simp; rfl)); intro gs w1 b hg hb; replace ST := Lib.hid (ST.out.made b hg hb); clear b hg hb)
    | (go_at_call 25; (with_reducible refine (TP1.out _).mono ?_); rintro e w' ⟨rfl, rfl⟩)
    | (go_at_call 25; (with_reducible refine (TP2.out _).mono ?_); rintro e w' ⟨rfl, rfl⟩)
    | (go_at_call 25; (with_reducible refine (TP3.out _).mono ?_); rintro e w' ⟨rfl, rfl⟩)
    | (go_at_call 25; (with_reducible refine (TP4.out _).mono ?_); rintro e w' ⟨rfl, rfl⟩)
    | ((with_reducible refine Step.gate_load (t := 3) rfl ?_); refine Step.loadG ST.out.at0 rfl rfl rfl pl_int rfl ?_)
    | ((with_reducible refine Step.gate_alloc (t := 44) rfl ?_); refine Step.freshAlloc rfl rfl (alloc_agg zero_inst) ?_; intro g11 w2 b hg hb; replace ST := Lib.hid (ST.out.made b hg hb); clear b hb hg)
    | ((with_reducible refine Step.gate_store (t := 44) rfl ?_); refine Step.storeAll ST.out.at0 rfl rfl rfl rfl rfl size_inst rfl rfl ?_; intro w3 nb m; replace ST := Lib.hid (ST.out.set0 nb m); clear nb m)
    | ((with_reducible refine Step.gate_load (t := 44) rfl ?_); refine Step.loadAll ST.out.at0 rfl rfl rfl Tryz.underlying44 rfl size_inst ?_)
    | ((with_reducible refine Step.gate_store (t := 3) rfl ?_); refine Step.store ST.out.at0 rfl rfl rfl rfl rfl pl_int rfl rfl ?_; intro w3 nb m; simp only [List.setIfInBounds_toArray, List.set_cons_zero, List.set_cons_succ] at nb; replace ST := Lib.hid (ST.out.set0 nb m); clear nb m)
    | (go_at_call 27; (with_reducible refine (TE.out _).mono ?_); rintro e w' ⟨rfl, hb⟩; replace ST := Lib.hid (ST.out.call hb); clear hb)
    | (go_at_call 22; (with_reducible refine (TO.out _).mono ?_); rintro e w9 ⟨gc, gt, h1, h2, F1, F2, rfl, d⟩; replace ST := Lib.hid (DK.join ST.out d); clear d)
    | ((with_reducible refine Step.gate_alloc (t := 40) rfl ?_); refine Step.freshAlloc rfl rfl (Duo.alloc_agg Duo.zero_two) ?_; intro g15 w2 b hg hb; replace ST := Lib.hid (ST.out.made b hg hb); clear b hb hg)
    | ((with_reducible refine Step.gate_store (t := 40) rfl ?_); refine Step.storeAll (vs := #[.pointer (some ⟨h1, 0, none⟩), .pointer (some ⟨h2, 0, none⟩)]) ST.out.kn.at0 rfl rfl rfl rfl rfl size_two rfl rfl ?_; intro w3 nb m; replace ST := Lib.hid (ST.out.set (ST.out.kn.set0 nb m) m ⟨_, List.mem_of_getElem? (i := 0) rfl, rfl⟩ rfl); clear nb m)
    | ((with_reducible refine Step.gate_load (t := 25) rfl ?_); refine Step.loadAll ST.out.kn.at4 rfl rfl rfl Tryz.underlying25 rfl (size_hart _) ?_)
    | (go_at_call 23; (with_reducible refine (TS.out _ _ _ _ _ _ ST.out.core1).mono ?_); rintro e w10 ⟨rfl, F3, hk, m, hF⟩; replace ST := Lib.hid (ST.out.step1 hk m hF); clear hk m hF)
    | ((with_reducible refine Step.gate_alloc (t := 25) rfl ?_); refine Step.freshAlloc rfl rfl (alloc_agg zero_hart) ?_; intro g17 w2 b hg hb; replace ST := Lib.hid (ST.out.made b hg hb); clear b hb hg)
    | ((with_reducible refine Step.gate_alloc (t := 46) rfl ?_); refine Step.freshAlloc rfl rfl (alloc_agg zero_ev) ?_; intro g18 w2 b hg hb; replace ST := Lib.hid (ST.out.made b hg hb); clear b hb hg)
    | ((with_reducible refine Step.gate_store (t := 25) rfl ?_); refine Step.storeAll ST.out.kn.at1 rfl rfl rfl rfl rfl (size_hart _) rfl (hc_all _) ?_; intro w3 nb m; replace ST := Lib.hid (ST.out.set (ST.out.kn.set1 nb m) m ⟨_, List.mem_of_getElem? (i := 1) rfl, rfl⟩ rfl); clear nb m)
    | ((with_reducible refine Step.gate_store (t := 46) rfl ?_); refine Step.storeAll (vs := #[.int .i64 1, .int .i64 0, .int .u64 0, .int .u64 0, .bool false, .bool false]) ST.out.kn.at0 rfl rfl rfl rfl rfl size_ev rfl rfl ?_; intro w3 nb m; replace ST := Lib.hid (ST.out.set (ST.out.kn.set0 nb m) m ⟨_, List.mem_of_getElem? (i := 0) rfl, rfl⟩ rfl); clear nb m)
    | ((with_reducible refine Step.gate_load (t := 46) rfl ?_); refine Step.loadAll ST.out.kn.at0 rfl rfl rfl Tryz.underlying46 rfl size_ev ?_)
    | ((with_reducible refine Step.gate_load (t := 22) rfl ?_); refine Step.loadG ST.out.kn.at1 rfl rfl rfl pl_u64 r43 ?_)
    | ((with_reducible refine Step.gate_load (t := 22) rfl ?_); refine Step.loadG ST.out.kn.at1 rfl rfl rfl pl_u64 r44 ?_)
    | ((with_reducible refine Step.gate_load (t := 4) rfl ?_); refine Step.loadG ST.out.kn.at1 rfl rfl rfl pl_bool r33 ?_)
    | ((with_reducible refine Step.gate_load (t := 4) rfl ?_); refine Step.loadG ST.out.kn.at1 rfl rfl rfl pl_bool r36 ?_)
    | ((with_reducible refine Step.gate_load (t := 23) rfl ?_); refine loadMidW ST.out.kn.at1 rfl rfl rfl rx1 Tryz.underlying23 rfl (size_arr _) ?_)
    | ((with_reducible refine Step.gate_load (t := 23) rfl ?_); refine loadMidW ST.out.kn.at5 rfl rfl rfl rx2 Tryz.underlying23 rfl (size_arr _) ?_)
    | ((with_reducible refine gate_bin (t := 23) rfl ?_); refine valueW (v := .bool true) rfl (eql_arr rfl rfl rfl _) ?_)
    | ((with_reducible refine Step.gate_load (t := 40) rfl ?_); refine loadAllW ST.out.kn.at2 rfl rfl rfl Tryz.underlying40 rfl size_two ?_)
    | (go_at_call 26; (with_reducible refine (same_dk ST.out).mono ?_); rintro e w' ⟨rfl, hb⟩; replace ST := Lib.hid (ST.out.call hb); clear hb)
    | (go_at_call 15; (with_reducible refine (awake_any _).mono ?_); rintro e w' ⟨rfl, hb⟩; replace ST := Lib.hid (ST.out.call hb); clear hb))
  all_goals go_ret
  all_goals exact ⟨rfl, ST.out.below⟩
theorem usr_x (h : Hrt) (u : Int) : (misH { calmH h with user := true } 2 u).x = (calmH h).x := mis_x (C := { calmH h with user := true }) (show xup h.x 0 0 0 = 0 from xup_at _ _ _) 2 u
set_option maxHeartbeats 2000000 in
theorem users_any (h : Hrt) (hf : Fit h) (kd ci fi ri : Int) (h1 : (-9223372036854775808 ≤ kd ∧ kd < 9223372036854775808)) (h2 : (-9223372036854775808 ≤ ci ∧ ci < 9223372036854775808)) (h3 : (-9223372036854775808 ≤ fi ∧ fi < 9223372036854775808)) (h4 : (-9223372036854775808 ≤ ri ∧ ri < 9223372036854775808)) (W : World) : Calls Tryz.prog 12 #[.agg (hc h), .int .i64 kd, .int .i64 ci, .int .i64 fi, .int .i64 ri] W fun e w' => e = .returned (.bool true) ∧ Below W.heap.size W w' := by
  have P : ∀ x m q, 0 < m → m < 9223372036854775808 → x % m = q → -9223372036854775808 ≤ x ∧ x < 9223372036854775808 → ∀ w, Calls Tryz.prog 25 #[.int .i64 x, .int .i64 m] w fun e w' => e = .returned (.int .i64 q) ∧ w = w' := fun x m q h0 hm e hx w => e ▸ Mem.place_any x m h0 hx hm w
  have TC0 := Lib.hid (calm_any h hf)
  have F0 := calm_fit hf
  have F : Fit { calmH h with user := true } := ⟨F0.x, F0.pc, F0.stvec, F0.sscr, F0.sepc, F0.scause, F0.stval, F0.sie, F0.sip, F0.satp, F0.resv⟩
  rcases (show kd % 4 = 0 ∨ kd % 4 = 1 ∨ kd % 4 = 2 ∨ kd % 4 = 3 by omega) with e | e | e | e
  · have hx := usr_x h 270532723
    exact usr_ur h (calmH h) (misH { calmH h with user := true } 2 270532723) kd ci fi ri 270532723 (Lib.hid (P kd 4 _ (by decide) (by decide) e h1)) (by decide) TC0 (Lib.hid enc_ur) (Lib.hid one_ur) (Lib.hid (fun X gc gm tv m0 F1 hk => step_ur hk _ F rfl rfl rfl rfl)) rfl rfl rfl rfl (by rw [← hx]; exact row_x _) (row_x _) W
  · have hx := usr_x h 273678451
    exact usr_uw h (calmH h) (misH { calmH h with user := true } 2 273678451) kd ci fi ri 273678451 (Lib.hid (P kd 4 _ (by decide) (by decide) e h1)) (by decide) TC0 (Lib.hid enc_uw) (Lib.hid one_uw) (Lib.hid (fun X gc gm tv m0 F1 hk => step_uw hk _ F rfl rfl rfl rfl)) rfl rfl rfl rfl (by rw [← hx]; exact row_x _) (row_x _) W
  · have hx := usr_x h 301990003
    exact usr_us h (calmH h) (misH { calmH h with user := true } 2 301990003) kd ci fi ri 301990003 (Lib.hid (P kd 4 _ (by decide) (by decide) e h1)) (by decide) TC0 (Lib.hid enc_us) (Lib.hid one_us) (Lib.hid (fun X gc gm tv m0 F1 hk => step_us hk _ F rfl rfl rfl rfl)) rfl rfl rfl rfl (by rw [← hx]; exact row_x _) (row_x _) W
  · obtain ⟨n1, en⟩ := Int.eq_ofNat_of_zero_le (show 0 ≤ ri % 32 by omega)
    have hn1 : n1 < 32 := by omega
    have hfn : 1 ≤ 1 + fi % 3 ∧ 1 + fi % 3 ≤ 3 := by omega
    by_cases ep : ci % 4096 = 3073
    · by_cases hf1 : fi % 3 = 0
      · have hx := usr_x h (csrU (1 + fi % 3) n1 3073)
        exact usr_cb h (calmH h) (misH { calmH h with user := true } 2 (csrU (1 + fi % 3) n1 3073)) kd ci fi ri (csrU (1 + fi % 3) n1 3073) _ (1 + fi % 3) (IntWalk.i64_in _ (by omega)) n1 (bne_eq_false_iff_eq.2 (by omega)) (Lib.hid (P ci 4096 _ (by decide) (by decide) ep h2)) (Lib.hid (P fi 3 _ (by decide) (by decide) rfl h3)) (Lib.hid (P ri 32 _ (by decide) (by decide) en h4)) (Lib.hid (P kd 4 _ (by decide) (by decide) e h1)) (wrap32 (csr_word (1 + fi % 3) n1 3073 hfn (by omega) (by omega)).1) TC0 (Lib.hid (enc_csr hfn hn1 (by omega))) (Lib.hid (one_csr hfn hn1 (by omega))) (Lib.hid (fun X gc gm tv m0 F1 hk => step_uc hfn hn1 (by omega) (.inr (.inl (by omega))) hk _ F rfl rfl rfl rfl)) rfl rfl rfl rfl (by rw [← hx]; exact row_x _) (row_x _) W
      · by_cases hz : n1 = 0
        · subst hz
          have hx := usr_x h (csrU (1 + fi % 3) (0 : Nat) 256)
          exact usr_cc h (calmH h) (misH { calmH h with user := true } 2 (csrU (1 + fi % 3) (0 : Nat) 256)) kd ci fi ri (csrU (1 + fi % 3) (0 : Nat) 256) _ (1 + fi % 3) (IntWalk.i64_in _ (by omega)) (bne_iff_ne.2 (by omega)) (Lib.hid (P ci 4096 _ (by decide) (by decide) ep h2)) (Lib.hid (P fi 3 _ (by decide) (by decide) rfl h3)) (Lib.hid (P ri 32 _ (by decide) (by decide) en h4)) (Lib.hid (P kd 4 _ (by decide) (by decide) e h1)) (wrap32 (csr_word (1 + fi % 3) (0 : Nat) 256 hfn (by omega) (by omega)).1) TC0 (Lib.hid (enc_csr hfn hn1 (by omega))) (Lib.hid (one_csr hfn hn1 (by omega))) (Lib.hid (fun X gc gm tv m0 F1 hk => step_uc hfn hn1 (by omega) (.inl (by decide)) hk _ F rfl rfl rfl rfl)) rfl rfl rfl rfl (by rw [← hx]; exact row_x _) (row_x _) W
        · have hnz : ((n1 : Int) == 0) = false := beq_eq_false_iff_ne.2 (by omega)
          have hx := usr_x h (csrU (1 + fi % 3) n1 3073)
          exact usr_cd h (calmH h) (misH { calmH h with user := true } 2 (csrU (1 + fi % 3) n1 3073)) kd ci fi ri (csrU (1 + fi % 3) n1 3073) _ (1 + fi % 3) (IntWalk.i64_in _ (by omega)) n1 (bne_iff_ne.2 (by omega)) hnz (Lib.hid (P ci 4096 _ (by decide) (by decide) ep h2)) (Lib.hid (P fi 3 _ (by decide) (by decide) rfl h3)) (Lib.hid (P ri 32 _ (by decide) (by decide) en h4)) (Lib.hid (P kd 4 _ (by decide) (by decide) e h1)) (wrap32 (csr_word (1 + fi % 3) n1 3073 hfn (by omega) (by omega)).1) TC0 (Lib.hid (enc_csr hfn hn1 (by omega))) (Lib.hid (one_csr hfn hn1 (by omega))) (Lib.hid (fun X gc gm tv m0 F1 hk => step_uc hfn hn1 (by omega) (.inr (.inr (by omega))) hk _ F rfl rfl rfl rfl)) rfl rfl rfl rfl (by rw [← hx]; exact row_x _) (row_x _) W
    · have ep' := ep
      replace ep : ci % 4096 = ci % 4096 := rfl
      have hx := usr_x h (csrU (1 + fi % 3) n1 (ci % 4096))
      exact usr_ca h (calmH h) (misH { calmH h with user := true } 2 (csrU (1 + fi % 3) n1 (ci % 4096))) kd ci fi ri (csrU (1 + fi % 3) n1 (ci % 4096)) _ (1 + fi % 3) (IntWalk.i64_in _ (by omega)) (ci % 4096) n1 (beq_eq_false_iff_ne.2 ep') (Lib.hid (P ci 4096 _ (by decide) (by decide) ep h2)) (Lib.hid (P fi 3 _ (by decide) (by decide) rfl h3)) (Lib.hid (P ri 32 _ (by decide) (by decide) en h4)) (Lib.hid (P kd 4 _ (by decide) (by decide) e h1)) (wrap32 (csr_word (1 + fi % 3) n1 (ci % 4096) hfn (by omega) (by omega)).1) TC0 (Lib.hid (enc_csr hfn hn1 (by omega))) (Lib.hid (one_csr hfn hn1 (by omega))) (Lib.hid (fun X gc gm tv m0 F1 hk => step_uc hfn hn1 (by omega) (.inl ep') hk _ F rfl rfl rfl rfl)) rfl rfl rfl rfl (by rw [← hx]; exact row_x _) (row_x _) W
end Go.Proofs.YthkodjkkcgdmfaaGreat.Hart
end
