/- Parts of the walks and laws for the claim: Word, DecR, DecS, Encode, REnc, WordE, DecG, OneI, AwkB, RunC, Use, UseB; no conditions beyond the theorems' own. -/
import Derived.Deep.Cut
import Derived.Test.YthkodjkkcgdmfaaGreatR6
import Derived.Test.YthkodjkkcgdmfaaGreatR8
section
namespace Go.Proofs.YthkodjkkcgdmfaaGreat.Enc
open Go Go.RowKit Go.Proofs.YthkodjkkcgdmfaaGreat.Step
set_option linter.unusedVariables false
set_option linter.unusedSimpArgs false
set_option maxRecDepth 100000
/-- The word that the document puts together. -/
def wordF (k fn rd rs1 rs2 imm sz : Int) (sg : Bool) : Int :=
  if k = 1 then rbor (rbor (55) ((pt (rd) 5 7))) ((pt (imm / 4096) 20 12)) else (if k = 2 then rbor (rbor (23) ((pt (rd) 5 7))) ((pt (imm / 4096) 20 12)) else (if k = 3 then rbor (rbor 111 (pt (rd) 5 7)) (rbor (rbor (rbor ((pt (imm / 1048576) 1 31)) ((pt (imm / 4096) 8 12))) ((pt (imm / 2048) 1 20))) ((pt (imm / 2) 10 21))) else (if k = 4 then rbor (rbor (rbor (103) ((pt (rd) 5 7))) ((pt (rs1) 5 15))) ((pt (imm) 12 20)) else (if k = 5 then rbor (rbor (rbor (rbor (99) ((pt (pk bwL fn) 3 12))) ((pt (rs1) 5 15))) ((pt (rs2) 5 20))) (rbor (rbor (rbor ((pt (imm / 4096) 1 31)) ((pt (imm / 2048) 1 7))) ((pt (imm / 32) 6 25))) ((pt (imm / 2) 4 8))) else (if k = 6 then (if sg = true then rbor (rbor (rbor (rbor (3) ((pk szL sz) * 4096)) ((pt (rd) 5 7))) ((pt (rs1) 5 15))) ((pt (imm) 12 20)) else rbor (rbor (rbor (rbor (3) (((pk szL sz) + 4) * 4096)) ((pt (rd) 5 7))) ((pt (rs1) 5 15))) ((pt (imm) 12 20))) else (if k = 7 then rbor (rbor (rbor (rbor (rbor (35) ((pk szL sz) * 4096)) ((pt (rs1) 5 15))) ((pt (rs2) 5 20))) ((pt (imm) 5 7))) ((pt (imm / 32) 7 25)) else (if k = 9 then (if (decide (19 ≤ fn) && decide (fn ≤ 23)) = true then rbor (rbor (rbor (rbor (27) ((al fn))) ((pt (rd) 5 7))) ((pt (rs1) 5 15))) ((pt (imm) 12 20)) else rbor (rbor (rbor (rbor (19) ((al fn))) ((pt (rd) 5 7))) ((pt (rs1) 5 15))) ((pt (imm) 12 20))) else (if k = 8 then (if 19 ≤ fn then rbor (rbor 59 (al fn)) (rbor (rbor ((pt (rd) 5 7)) ((pt (rs1) 5 15))) ((pt (rs2) 5 20))) else rbor (rbor 51 (al fn)) (rbor (rbor ((pt (rd) 5 7)) ((pt (rs1) 5 15))) ((pt (rs2) 5 20)))) else (if k = 10 then 15 else (if k = 11 then 115 else (if k = 12 then 1048691 else (if k = 18 then 270532723 else (if k = 19 then 273678451 else (if k = 20 then rbor (rbor (301990003) ((pt (rs1) 5 15))) ((pt (rs2) 5 20)) else (if k = 13 then rbor (rbor (rbor (rbor (115) ((pt (fn) 2 12))) ((pt (rd) 5 7))) ((pt (rs1) 5 15))) ((pt (imm) 12 20)) else (if k = 14 then rbor (rbor (rbor (rbor (16499) ((pt (fn) 2 12))) ((pt (rd) 5 7))) ((pt (rs1) 5 15))) ((pt (imm) 12 20)) else (if k = 15 then rbor (rbor (rbor (268435503) ((pk szL sz) * 4096)) ((pt (rd) 5 7))) ((pt (rs1) 5 15)) else (if k = 16 then rbor (rbor 402653231 ((pk szL sz) * 4096)) (rbor (rbor ((pt (rd) 5 7)) ((pt (rs1) 5 15))) ((pt (rs2) 5 20))) else (if k = 17 then rbor (rbor (rbor (47) ((pt (pk amW fn) 5 27))) ((pk szL sz) * 4096)) (rbor (rbor ((pt (rd) 5 7)) ((pt (rs1) 5 15))) ((pt (rs2) 5 20))) else (0))))))))))))))))))))
set_option maxHeartbeats 32000000 in
theorem word_any (k fn rd rs1 rs2 imm sz : Int) (sg : Bool) (hf : 0 ≤ fn ∧ fn ≤ 28) (hz : 0 ≤ sz ∧ sz ≤ 8) (w : World) : Calls Tryz.prog 44 #[.agg #[.int .i64 k, .int .i64 fn, .int .i64 rd, .int .i64 rs1, .int .i64 rs2, .int .i64 imm, .int .i64 sz, .bool sg]] w fun e w' => e = .returned (.int .u32 (wordF k fn rd rs1 rs2 imm sz sg)) ∧ Below w.heap.size w w' := by
  have TQ1 := Lib.hid (fun w => calls_same (show Calls Tryz.prog 67 #[.int .i64 (rd), .int .i64 5, .int .i64 7] w fun e w' => e = .returned (.int .u32 (pt (rd) 5 7)) ∧ w = w' from at_any (rd) 5 7 5 7 rfl rfl (by decide) (by decide) w))
  have TQ2 := Lib.hid (fun w => calls_same (show Calls Tryz.prog 67 #[.int .i64 (rs1), .int .i64 5, .int .i64 15] w fun e w' => e = .returned (.int .u32 (pt (rs1) 5 15)) ∧ w = w' from at_any (rs1) 5 15 5 15 rfl rfl (by decide) (by decide) w))
  have TQ3 := Lib.hid (fun w => calls_same (show Calls Tryz.prog 67 #[.int .i64 (rs2), .int .i64 5, .int .i64 20] w fun e w' => e = .returned (.int .u32 (pt (rs2) 5 20)) ∧ w = w' from at_any (rs2) 5 20 5 20 rfl rfl (by decide) (by decide) w))
  have TB0 := Lib.hid (fun w => calls_same (show Calls Tryz.prog 67 #[.int .i64 (imm / 4096), .int .i64 1, .int .i64 31] w fun e w' => e = .returned (.int .u32 (pt (imm / 4096) 1 31)) ∧ w = w' from at_any (imm / 4096) 1 31 1 31 rfl rfl (by decide) (by decide) w))
  have TB1 := Lib.hid (fun w => calls_same (show Calls Tryz.prog 67 #[.int .i64 (imm / 2048), .int .i64 1, .int .i64 7] w fun e w' => e = .returned (.int .u32 (pt (imm / 2048) 1 7)) ∧ w = w' from at_any (imm / 2048) 1 7 1 7 rfl rfl (by decide) (by decide) w))
  have TB2 := Lib.hid (fun w => calls_same (show Calls Tryz.prog 67 #[.int .i64 (imm / 32), .int .i64 6, .int .i64 25] w fun e w' => e = .returned (.int .u32 (pt (imm / 32) 6 25)) ∧ w = w' from at_any (imm / 32) 6 25 6 25 rfl rfl (by decide) (by decide) w))
  have TB3 := Lib.hid (fun w => calls_same (show Calls Tryz.prog 67 #[.int .i64 (imm / 2), .int .i64 4, .int .i64 8] w fun e w' => e = .returned (.int .u32 (pt (imm / 2) 4 8)) ∧ w = w' from at_any (imm / 2) 4 8 4 8 rfl rfl (by decide) (by decide) w))
  have TJ0 := Lib.hid (fun w => calls_same (show Calls Tryz.prog 67 #[.int .i64 (imm / 1048576), .int .i64 1, .int .i64 31] w fun e w' => e = .returned (.int .u32 (pt (imm / 1048576) 1 31)) ∧ w = w' from at_any (imm / 1048576) 1 31 1 31 rfl rfl (by decide) (by decide) w))
  have TJ1 := Lib.hid (fun w => calls_same (show Calls Tryz.prog 67 #[.int .i64 (imm / 4096), .int .i64 8, .int .i64 12] w fun e w' => e = .returned (.int .u32 (pt (imm / 4096) 8 12)) ∧ w = w' from at_any (imm / 4096) 8 12 8 12 rfl rfl (by decide) (by decide) w))
  have TJ2 := Lib.hid (fun w => calls_same (show Calls Tryz.prog 67 #[.int .i64 (imm / 2048), .int .i64 1, .int .i64 20] w fun e w' => e = .returned (.int .u32 (pt (imm / 2048) 1 20)) ∧ w = w' from at_any (imm / 2048) 1 20 1 20 rfl rfl (by decide) (by decide) w))
  have TJ3 := Lib.hid (fun w => calls_same (show Calls Tryz.prog 67 #[.int .i64 (imm / 2), .int .i64 10, .int .i64 21] w fun e w' => e = .returned (.int .u32 (pt (imm / 2) 10 21)) ∧ w = w' from at_any (imm / 2) 10 21 10 21 rfl rfl (by decide) (by decide) w))
  have TU0 := Lib.hid (fun w => calls_same (show Calls Tryz.prog 67 #[.int .i64 (imm / 4096), .int .i64 20, .int .i64 12] w fun e w' => e = .returned (.int .u32 (pt (imm / 4096) 20 12)) ∧ w = w' from at_any (imm / 4096) 20 12 20 12 rfl rfl (by decide) (by decide) w))
  have TI0 := Lib.hid (fun w => calls_same (show Calls Tryz.prog 67 #[.int .i64 (imm), .int .i64 12, .int .i64 20] w fun e w' => e = .returned (.int .u32 (pt (imm) 12 20)) ∧ w = w' from at_any (imm) 12 20 12 20 rfl rfl (by decide) (by decide) w))
  have TF0 := Lib.hid (fun w => calls_same (show Calls Tryz.prog 67 #[.int .i64 (pk bwL fn), .int .i64 3, .int .i64 12] w fun e w' => e = .returned (.int .u32 (pt (pk bwL fn) 3 12)) ∧ w = w' from at_any (pk bwL fn) 3 12 3 12 rfl rfl (by decide) (by decide) w))
  have TS0 := Lib.hid (fun w => calls_same (show Calls Tryz.prog 67 #[.int .i64 (imm), .int .i64 5, .int .i64 7] w fun e w' => e = .returned (.int .u32 (pt (imm) 5 7)) ∧ w = w' from at_any (imm) 5 7 5 7 rfl rfl (by decide) (by decide) w))
  have TS7 := Lib.hid (fun w => calls_same (show Calls Tryz.prog 67 #[.int .i64 (imm / 32), .int .i64 7, .int .i64 25] w fun e w' => e = .returned (.int .u32 (pt (imm / 32) 7 25)) ∧ w = w' from at_any (imm / 32) 7 25 7 25 rfl rfl (by decide) (by decide) w))
  have TC0 := Lib.hid (fun w => calls_same (show Calls Tryz.prog 67 #[.int .i64 (fn), .int .i64 2, .int .i64 12] w fun e w' => e = .returned (.int .u32 (pt (fn) 2 12)) ∧ w = w' from at_any (fn) 2 12 2 12 rfl rfl (by decide) (by decide) w))
  have TM0 := Lib.hid (fun w => calls_same (show Calls Tryz.prog 67 #[.int .i64 (pk amW fn), .int .i64 5, .int .i64 27] w fun e w' => e = .returned (.int .u32 (pt (pk amW fn) 5 27)) ∧ w = w' from at_any (pk amW fn) 5 27 5 27 rfl rfl (by decide) (by decide) w))
  have TL := Lib.hid (alu_any fn hf)
  have TI := Lib.hid in_any
  have HX := Lib.hid (show -9223372036854775808 ≤ sz ∧ sz < 9223372036854775808 by omega)
  have HY := Lib.hid (show -9223372036854775808 ≤ fn ∧ fn < 9223372036854775808 by omega)
  have hS : 0 ≤ pk szL sz ∧ pk szL sz ≤ 3 := by
    obtain h | h | h | h | h | h | h | h | h : sz = 0 ∨ sz = 1 ∨ sz = 2 ∨ sz = 3 ∨ sz = 4 ∨ sz = 5 ∨ sz = 6 ∨ sz = 7 ∨ sz = 8 := by omega
    all_goals (subst h; decide)
  unfold wordF
  generalize pt (rd) 5 7 = Q1 at *
  generalize pt (rs1) 5 15 = Q2 at *
  generalize pt (rs2) 5 20 = Q3 at *
  generalize pt (imm / 4096) 1 31 = B0 at *
  generalize pt (imm / 2048) 1 7 = B1 at *
  generalize pt (imm / 32) 6 25 = B2 at *
  generalize pt (imm / 2) 4 8 = B3 at *
  generalize pt (imm / 1048576) 1 31 = J0 at *
  generalize pt (imm / 4096) 8 12 = J1 at *
  generalize pt (imm / 2048) 1 20 = J2 at *
  generalize pt (imm / 2) 10 21 = J3 at *
  generalize pt (imm / 4096) 20 12 = U0 at *
  generalize pt (imm) 12 20 = I0 at *
  generalize pt (pk bwL fn) 3 12 = F0 at *
  generalize pt (imm) 5 7 = S0 at *
  generalize pt (imm / 32) 7 25 = S7 at *
  generalize pt (fn) 2 12 = C0 at *
  generalize pt (pk amW fn) 5 27 = M0 at *
  generalize al fn = A at *
  obtain ⟨S, hs⟩ : ∃ S, pk szL sz = S := ⟨_, rfl⟩
  rw [hs] at hS ⊢
  have hs : pk ([0, 0, 1, 0, 2, 0, 0, 0, 3] : List Int) sz = S := hs
  obtain ⟨bv, hbv⟩ : ∃ bv, pk bwL fn = bv := ⟨_, rfl⟩
  rw [hbv] at TF0
  have hbv : pk ([0, 0, 1, 4, 5, 6, 7] : List Int) fn = bv := hbv
  obtain ⟨av, hav⟩ : ∃ av, pk amW fn = av := ⟨_, rfl⟩
  rw [hav] at TM0
  have hav : pk ([0, 1, 0, 4, 12, 8, 16, 20, 24, 28] : List Int) fn = av := hav
  clear hf hz
  have hW4 : IntKind.u32.wrap (S * 4096) = S * 4096 := by show (_ : Int) % 4294967296 = _; omega
  obtain ⟨E_, hEq⟩ : ∃ E_, (if k = 1 then rbor (rbor (55) (Q1)) (U0) else (if k = 2 then rbor (rbor (23) (Q1)) (U0) else (if k = 3 then rbor (rbor 111 Q1) (rbor (rbor (rbor (J0) (J1)) (J2)) (J3)) else (if k = 4 then rbor (rbor (rbor (103) (Q1)) (Q2)) (I0) else (if k = 5 then rbor (rbor (rbor (rbor (99) (F0)) (Q2)) (Q3)) (rbor (rbor (rbor (B0) (B1)) (B2)) (B3)) else (if k = 6 then (if sg = true then rbor (rbor (rbor (rbor (3) (S * 4096)) (Q1)) (Q2)) (I0) else rbor (rbor (rbor (rbor (3) ((S + 4) * 4096)) (Q1)) (Q2)) (I0)) else (if k = 7 then rbor (rbor (rbor (rbor (rbor (35) (S * 4096)) (Q2)) (Q3)) (S0)) (S7) else (if k = 9 then (if (decide (19 ≤ fn) && decide (fn ≤ 23)) = true then rbor (rbor (rbor (rbor (27) (A)) (Q1)) (Q2)) (I0) else rbor (rbor (rbor (rbor (19) (A)) (Q1)) (Q2)) (I0)) else (if k = 8 then (if 19 ≤ fn then rbor (rbor 59 A) (rbor (rbor (Q1) (Q2)) (Q3)) else rbor (rbor 51 A) (rbor (rbor (Q1) (Q2)) (Q3))) else (if k = 10 then 15 else (if k = 11 then 115 else (if k = 12 then 1048691 else (if k = 18 then 270532723 else (if k = 19 then 273678451 else (if k = 20 then rbor (rbor (301990003) (Q2)) (Q3) else (if k = 13 then rbor (rbor (rbor (rbor (115) (C0)) (Q1)) (Q2)) (I0) else (if k = 14 then rbor (rbor (rbor (rbor (16499) (C0)) (Q1)) (Q2)) (I0) else (if k = 15 then rbor (rbor (rbor (268435503) (S * 4096)) (Q1)) (Q2) else (if k = 16 then rbor (rbor 402653231 (S * 4096)) (rbor (rbor (Q1) (Q2)) (Q3)) else (if k = 17 then rbor (rbor (rbor (47) (M0)) (S * 4096)) (rbor (rbor (Q1) (Q2)) (Q3)) else (0)))))))))))))))))))) : Int) = E_ := ⟨_, rfl⟩
  rw [hEq]
  have hd : (k = 1 ∧ E_ = rbor (rbor (55) (Q1)) (U0)) ∨ (¬ (k = 1) ∧ k = 2 ∧ E_ = rbor (rbor (23) (Q1)) (U0)) ∨ (¬ (k = 1) ∧ ¬ (k = 2) ∧ k = 3 ∧ E_ = rbor (rbor 111 Q1) (rbor (rbor (rbor (J0) (J1)) (J2)) (J3))) ∨ (¬ (k = 1) ∧ ¬ (k = 2) ∧ ¬ (k = 3) ∧ k = 4 ∧ E_ = rbor (rbor (rbor (103) (Q1)) (Q2)) (I0)) ∨ (¬ (k = 1) ∧ ¬ (k = 2) ∧ ¬ (k = 3) ∧ ¬ (k = 4) ∧ k = 5 ∧ E_ = rbor (rbor (rbor (rbor (99) (F0)) (Q2)) (Q3)) (rbor (rbor (rbor (B0) (B1)) (B2)) (B3))) ∨ (¬ (k = 1) ∧ ¬ (k = 2) ∧ ¬ (k = 3) ∧ ¬ (k = 4) ∧ ¬ (k = 5) ∧ k = 6 ∧ sg = true ∧ E_ = rbor (rbor (rbor (rbor (3) (S * 4096)) (Q1)) (Q2)) (I0)) ∨ (¬ (k = 1) ∧ ¬ (k = 2) ∧ ¬ (k = 3) ∧ ¬ (k = 4) ∧ ¬ (k = 5) ∧ k = 6 ∧ ¬ (sg = true) ∧ E_ = rbor (rbor (rbor (rbor (3) ((S + 4) * 4096)) (Q1)) (Q2)) (I0)) ∨ (¬ (k = 1) ∧ ¬ (k = 2) ∧ ¬ (k = 3) ∧ ¬ (k = 4) ∧ ¬ (k = 5) ∧ ¬ (k = 6) ∧ k = 7 ∧ E_ = rbor (rbor (rbor (rbor (rbor (35) (S * 4096)) (Q2)) (Q3)) (S0)) (S7)) ∨ (¬ (k = 1) ∧ ¬ (k = 2) ∧ ¬ (k = 3) ∧ ¬ (k = 4) ∧ ¬ (k = 5) ∧ ¬ (k = 6) ∧ ¬ (k = 7) ∧ k = 9 ∧ (decide (19 ≤ fn) && decide (fn ≤ 23)) = true ∧ E_ = rbor (rbor (rbor (rbor (27) (A)) (Q1)) (Q2)) (I0)) ∨ (¬ (k = 1) ∧ ¬ (k = 2) ∧ ¬ (k = 3) ∧ ¬ (k = 4) ∧ ¬ (k = 5) ∧ ¬ (k = 6) ∧ ¬ (k = 7) ∧ k = 9 ∧ ¬ ((decide (19 ≤ fn) && decide (fn ≤ 23)) = true) ∧ E_ = rbor (rbor (rbor (rbor (19) (A)) (Q1)) (Q2)) (I0)) ∨ (¬ (k = 1) ∧ ¬ (k = 2) ∧ ¬ (k = 3) ∧ ¬ (k = 4) ∧ ¬ (k = 5) ∧ ¬ (k = 6) ∧ ¬ (k = 7) ∧ ¬ (k = 9) ∧ k = 8 ∧ 19 ≤ fn ∧ E_ = rbor (rbor 59 A) (rbor (rbor (Q1) (Q2)) (Q3))) ∨ (¬ (k = 1) ∧ ¬ (k = 2) ∧ ¬ (k = 3) ∧ ¬ (k = 4) ∧ ¬ (k = 5) ∧ ¬ (k = 6) ∧ ¬ (k = 7) ∧ ¬ (k = 9) ∧ k = 8 ∧ ¬ (19 ≤ fn) ∧ E_ = rbor (rbor 51 A) (rbor (rbor (Q1) (Q2)) (Q3))) ∨ (¬ (k = 1) ∧ ¬ (k = 2) ∧ ¬ (k = 3) ∧ ¬ (k = 4) ∧ ¬ (k = 5) ∧ ¬ (k = 6) ∧ ¬ (k = 7) ∧ ¬ (k = 9) ∧ ¬ (k = 8) ∧ k = 10 ∧ E_ = 15) ∨ (¬ (k = 1) ∧ ¬ (k = 2) ∧ ¬ (k = 3) ∧ ¬ (k = 4) ∧ ¬ (k = 5) ∧ ¬ (k = 6) ∧ ¬ (k = 7) ∧ ¬ (k = 9) ∧ ¬ (k = 8) ∧ ¬ (k = 10) ∧ k = 11 ∧ E_ = 115) ∨ (¬ (k = 1) ∧ ¬ (k = 2) ∧ ¬ (k = 3) ∧ ¬ (k = 4) ∧ ¬ (k = 5) ∧ ¬ (k = 6) ∧ ¬ (k = 7) ∧ ¬ (k = 9) ∧ ¬ (k = 8) ∧ ¬ (k = 10) ∧ ¬ (k = 11) ∧ k = 12 ∧ E_ = 1048691) ∨ (¬ (k = 1) ∧ ¬ (k = 2) ∧ ¬ (k = 3) ∧ ¬ (k = 4) ∧ ¬ (k = 5) ∧ ¬ (k = 6) ∧ ¬ (k = 7) ∧ ¬ (k = 9) ∧ ¬ (k = 8) ∧ ¬ (k = 10) ∧ ¬ (k = 11) ∧ ¬ (k = 12) ∧ k = 18 ∧ E_ = 270532723) ∨ (¬ (k = 1) ∧ ¬ (k = 2) ∧ ¬ (k = 3) ∧ ¬ (k = 4) ∧ ¬ (k = 5) ∧ ¬ (k = 6) ∧ ¬ (k = 7) ∧ ¬ (k = 9) ∧ ¬ (k = 8) ∧ ¬ (k = 10) ∧ ¬ (k = 11) ∧ ¬ (k = 12) ∧ ¬ (k = 18) ∧ k = 19 ∧ E_ = 273678451) ∨ (¬ (k = 1) ∧ ¬ (k = 2) ∧ ¬ (k = 3) ∧ ¬ (k = 4) ∧ ¬ (k = 5) ∧ ¬ (k = 6) ∧ ¬ (k = 7) ∧ ¬ (k = 9) ∧ ¬ (k = 8) ∧ ¬ (k = 10) ∧ ¬ (k = 11) ∧ ¬ (k = 12) ∧ ¬ (k = 18) ∧ ¬ (k = 19) ∧ k = 20 ∧ E_ = rbor (rbor (301990003) (Q2)) (Q3)) ∨ (¬ (k = 1) ∧ ¬ (k = 2) ∧ ¬ (k = 3) ∧ ¬ (k = 4) ∧ ¬ (k = 5) ∧ ¬ (k = 6) ∧ ¬ (k = 7) ∧ ¬ (k = 9) ∧ ¬ (k = 8) ∧ ¬ (k = 10) ∧ ¬ (k = 11) ∧ ¬ (k = 12) ∧ ¬ (k = 18) ∧ ¬ (k = 19) ∧ ¬ (k = 20) ∧ k = 13 ∧ E_ = rbor (rbor (rbor (rbor (115) (C0)) (Q1)) (Q2)) (I0)) ∨ (¬ (k = 1) ∧ ¬ (k = 2) ∧ ¬ (k = 3) ∧ ¬ (k = 4) ∧ ¬ (k = 5) ∧ ¬ (k = 6) ∧ ¬ (k = 7) ∧ ¬ (k = 9) ∧ ¬ (k = 8) ∧ ¬ (k = 10) ∧ ¬ (k = 11) ∧ ¬ (k = 12) ∧ ¬ (k = 18) ∧ ¬ (k = 19) ∧ ¬ (k = 20) ∧ ¬ (k = 13) ∧ k = 14 ∧ E_ = rbor (rbor (rbor (rbor (16499) (C0)) (Q1)) (Q2)) (I0)) ∨ (¬ (k = 1) ∧ ¬ (k = 2) ∧ ¬ (k = 3) ∧ ¬ (k = 4) ∧ ¬ (k = 5) ∧ ¬ (k = 6) ∧ ¬ (k = 7) ∧ ¬ (k = 9) ∧ ¬ (k = 8) ∧ ¬ (k = 10) ∧ ¬ (k = 11) ∧ ¬ (k = 12) ∧ ¬ (k = 18) ∧ ¬ (k = 19) ∧ ¬ (k = 20) ∧ ¬ (k = 13) ∧ ¬ (k = 14) ∧ k = 15 ∧ E_ = rbor (rbor (rbor (268435503) (S * 4096)) (Q1)) (Q2)) ∨ (¬ (k = 1) ∧ ¬ (k = 2) ∧ ¬ (k = 3) ∧ ¬ (k = 4) ∧ ¬ (k = 5) ∧ ¬ (k = 6) ∧ ¬ (k = 7) ∧ ¬ (k = 9) ∧ ¬ (k = 8) ∧ ¬ (k = 10) ∧ ¬ (k = 11) ∧ ¬ (k = 12) ∧ ¬ (k = 18) ∧ ¬ (k = 19) ∧ ¬ (k = 20) ∧ ¬ (k = 13) ∧ ¬ (k = 14) ∧ ¬ (k = 15) ∧ k = 16 ∧ E_ = rbor (rbor 402653231 (S * 4096)) (rbor (rbor (Q1) (Q2)) (Q3))) ∨ (¬ (k = 1) ∧ ¬ (k = 2) ∧ ¬ (k = 3) ∧ ¬ (k = 4) ∧ ¬ (k = 5) ∧ ¬ (k = 6) ∧ ¬ (k = 7) ∧ ¬ (k = 9) ∧ ¬ (k = 8) ∧ ¬ (k = 10) ∧ ¬ (k = 11) ∧ ¬ (k = 12) ∧ ¬ (k = 18) ∧ ¬ (k = 19) ∧ ¬ (k = 20) ∧ ¬ (k = 13) ∧ ¬ (k = 14) ∧ ¬ (k = 15) ∧ ¬ (k = 16) ∧ k = 17 ∧ E_ = rbor (rbor (rbor (47) (M0)) (S * 4096)) (rbor (rbor (Q1) (Q2)) (Q3))) ∨ (¬ (k = 1) ∧ ¬ (k = 2) ∧ ¬ (k = 3) ∧ ¬ (k = 4) ∧ ¬ (k = 5) ∧ ¬ (k = 6) ∧ ¬ (k = 7) ∧ ¬ (k = 9) ∧ ¬ (k = 8) ∧ ¬ (k = 10) ∧ ¬ (k = 11) ∧ ¬ (k = 12) ∧ ¬ (k = 18) ∧ ¬ (k = 19) ∧ ¬ (k = 20) ∧ ¬ (k = 13) ∧ ¬ (k = 14) ∧ ¬ (k = 15) ∧ ¬ (k = 16) ∧ ¬ (k = 17) ∧ E_ = 0) := by
    by_cases c0 : k = 1
    · exact Or.inl ⟨c0, by rw [← hEq]; simp [c0]⟩
    · by_cases c1 : k = 2
      · exact Or.inr (Or.inl ⟨c0, c1, by rw [← hEq]; simp [c0, c1]⟩)
      · by_cases c2 : k = 3
        · exact Or.inr (Or.inr (Or.inl ⟨c0, c1, c2, by rw [← hEq]; simp [c0, c1, c2]⟩))
        · by_cases c3 : k = 4
          · exact Or.inr (Or.inr (Or.inr (Or.inl ⟨c0, c1, c2, c3, by rw [← hEq]; simp [c0, c1, c2, c3]⟩)))
          · by_cases c4 : k = 5
            · exact Or.inr (Or.inr (Or.inr (Or.inr (Or.inl ⟨c0, c1, c2, c3, c4, by rw [← hEq]; simp [c0, c1, c2, c3, c4]⟩))))
            · by_cases c5 : k = 6
              · by_cases c6 : sg = true
                · exact Or.inr (Or.inr (Or.inr (Or.inr (Or.inr (Or.inl ⟨c0, c1, c2, c3, c4, c5, c6, by rw [← hEq]; simp [c0, c1, c2, c3, c4, c5, c6]⟩)))))
                · exact Or.inr (Or.inr (Or.inr (Or.inr (Or.inr (Or.inr (Or.inl ⟨c0, c1, c2, c3, c4, c5, c6, by rw [← hEq]; simp [c0, c1, c2, c3, c4, c5, c6]⟩))))))
              · by_cases c6 : k = 7
                · exact Or.inr (Or.inr (Or.inr (Or.inr (Or.inr (Or.inr (Or.inr (Or.inl ⟨c0, c1, c2, c3, c4, c5, c6, by rw [← hEq]; simp [c0, c1, c2, c3, c4, c5, c6]⟩)))))))
                · by_cases c7 : k = 9
                  · by_cases c8 : (decide (19 ≤ fn) && decide (fn ≤ 23)) = true
                    · exact Or.inr (Or.inr (Or.inr (Or.inr (Or.inr (Or.inr (Or.inr (Or.inr (Or.inl ⟨c0, c1, c2, c3, c4, c5, c6, c7, c8, by rw [← hEq]; simp [c0, c1, c2, c3, c4, c5, c6, c7, c8]⟩))))))))
                    · exact Or.inr (Or.inr (Or.inr (Or.inr (Or.inr (Or.inr (Or.inr (Or.inr (Or.inr (Or.inl ⟨c0, c1, c2, c3, c4, c5, c6, c7, c8, by rw [← hEq]; simp [c0, c1, c2, c3, c4, c5, c6, c7, c8]⟩)))))))))
                  · by_cases c8 : k = 8
                    · by_cases c9 : 19 ≤ fn
                      · exact Or.inr (Or.inr (Or.inr (Or.inr (Or.inr (Or.inr (Or.inr (Or.inr (Or.inr (Or.inr (Or.inl ⟨c0, c1, c2, c3, c4, c5, c6, c7, c8, c9, by rw [← hEq]; simp [c0, c1, c2, c3, c4, c5, c6, c7, c8, c9]⟩))))))))))
                      · exact Or.inr (Or.inr (Or.inr (Or.inr (Or.inr (Or.inr (Or.inr (Or.inr (Or.inr (Or.inr (Or.inr (Or.inl ⟨c0, c1, c2, c3, c4, c5, c6, c7, c8, c9, by rw [← hEq]; simp [c0, c1, c2, c3, c4, c5, c6, c7, c8, c9]⟩)))))))))))
                    · by_cases c9 : k = 10
                      · exact Or.inr (Or.inr (Or.inr (Or.inr (Or.inr (Or.inr (Or.inr (Or.inr (Or.inr (Or.inr (Or.inr (Or.inr (Or.inl ⟨c0, c1, c2, c3, c4, c5, c6, c7, c8, c9, by rw [← hEq]; simp [c0, c1, c2, c3, c4, c5, c6, c7, c8, c9]⟩))))))))))))
                      · by_cases c10 : k = 11
                        · exact Or.inr (Or.inr (Or.inr (Or.inr (Or.inr (Or.inr (Or.inr (Or.inr (Or.inr (Or.inr (Or.inr (Or.inr (Or.inr (Or.inl ⟨c0, c1, c2, c3, c4, c5, c6, c7, c8, c9, c10, by rw [← hEq]; simp [c0, c1, c2, c3, c4, c5, c6, c7, c8, c9, c10]⟩)))))))))))))
                        · by_cases c11 : k = 12
                          · exact Or.inr (Or.inr (Or.inr (Or.inr (Or.inr (Or.inr (Or.inr (Or.inr (Or.inr (Or.inr (Or.inr (Or.inr (Or.inr (Or.inr (Or.inl ⟨c0, c1, c2, c3, c4, c5, c6, c7, c8, c9, c10, c11, by rw [← hEq]; simp [c0, c1, c2, c3, c4, c5, c6, c7, c8, c9, c10, c11]⟩))))))))))))))
                          · by_cases c12 : k = 18
                            · exact Or.inr (Or.inr (Or.inr (Or.inr (Or.inr (Or.inr (Or.inr (Or.inr (Or.inr (Or.inr (Or.inr (Or.inr (Or.inr (Or.inr (Or.inr (Or.inl ⟨c0, c1, c2, c3, c4, c5, c6, c7, c8, c9, c10, c11, c12, by rw [← hEq]; simp [c0, c1, c2, c3, c4, c5, c6, c7, c8, c9, c10, c11, c12]⟩)))))))))))))))
                            · by_cases c13 : k = 19
                              · exact Or.inr (Or.inr (Or.inr (Or.inr (Or.inr (Or.inr (Or.inr (Or.inr (Or.inr (Or.inr (Or.inr (Or.inr (Or.inr (Or.inr (Or.inr (Or.inr (Or.inl ⟨c0, c1, c2, c3, c4, c5, c6, c7, c8, c9, c10, c11, c12, c13, by rw [← hEq]; simp [c0, c1, c2, c3, c4, c5, c6, c7, c8, c9, c10, c11, c12, c13]⟩))))))))))))))))
                              · by_cases c14 : k = 20
                                · exact Or.inr (Or.inr (Or.inr (Or.inr (Or.inr (Or.inr (Or.inr (Or.inr (Or.inr (Or.inr (Or.inr (Or.inr (Or.inr (Or.inr (Or.inr (Or.inr (Or.inr (Or.inl ⟨c0, c1, c2, c3, c4, c5, c6, c7, c8, c9, c10, c11, c12, c13, c14, by rw [← hEq]; simp [c0, c1, c2, c3, c4, c5, c6, c7, c8, c9, c10, c11, c12, c13, c14]⟩)))))))))))))))))
                                · by_cases c15 : k = 13
                                  · exact Or.inr (Or.inr (Or.inr (Or.inr (Or.inr (Or.inr (Or.inr (Or.inr (Or.inr (Or.inr (Or.inr (Or.inr (Or.inr (Or.inr (Or.inr (Or.inr (Or.inr (Or.inr (Or.inl ⟨c0, c1, c2, c3, c4, c5, c6, c7, c8, c9, c10, c11, c12, c13, c14, c15, by rw [← hEq]; simp [c0, c1, c2, c3, c4, c5, c6, c7, c8, c9, c10, c11, c12, c13, c14, c15]⟩))))))))))))))))))
                                  · by_cases c16 : k = 14
                                    · exact Or.inr (Or.inr (Or.inr (Or.inr (Or.inr (Or.inr (Or.inr (Or.inr (Or.inr (Or.inr (Or.inr (Or.inr (Or.inr (Or.inr (Or.inr (Or.inr (Or.inr (Or.inr (Or.inr (Or.inl ⟨c0, c1, c2, c3, c4, c5, c6, c7, c8, c9, c10, c11, c12, c13, c14, c15, c16, by rw [← hEq]; simp [c0, c1, c2, c3, c4, c5, c6, c7, c8, c9, c10, c11, c12, c13, c14, c15, c16]⟩)))))))))))))))))))
                                    · by_cases c17 : k = 15
                                      · exact Or.inr (Or.inr (Or.inr (Or.inr (Or.inr (Or.inr (Or.inr (Or.inr (Or.inr (Or.inr (Or.inr (Or.inr (Or.inr (Or.inr (Or.inr (Or.inr (Or.inr (Or.inr (Or.inr (Or.inr (Or.inl ⟨c0, c1, c2, c3, c4, c5, c6, c7, c8, c9, c10, c11, c12, c13, c14, c15, c16, c17, by rw [← hEq]; simp [c0, c1, c2, c3, c4, c5, c6, c7, c8, c9, c10, c11, c12, c13, c14, c15, c16, c17]⟩))))))))))))))))))))
                                      · by_cases c18 : k = 16
                                        · exact Or.inr (Or.inr (Or.inr (Or.inr (Or.inr (Or.inr (Or.inr (Or.inr (Or.inr (Or.inr (Or.inr (Or.inr (Or.inr (Or.inr (Or.inr (Or.inr (Or.inr (Or.inr (Or.inr (Or.inr (Or.inr (Or.inl ⟨c0, c1, c2, c3, c4, c5, c6, c7, c8, c9, c10, c11, c12, c13, c14, c15, c16, c17, c18, by rw [← hEq]; simp [c0, c1, c2, c3, c4, c5, c6, c7, c8, c9, c10, c11, c12, c13, c14, c15, c16, c17, c18]⟩)))))))))))))))))))))
                                        · by_cases c19 : k = 17
                                          · exact Or.inr (Or.inr (Or.inr (Or.inr (Or.inr (Or.inr (Or.inr (Or.inr (Or.inr (Or.inr (Or.inr (Or.inr (Or.inr (Or.inr (Or.inr (Or.inr (Or.inr (Or.inr (Or.inr (Or.inr (Or.inr (Or.inr (Or.inl ⟨c0, c1, c2, c3, c4, c5, c6, c7, c8, c9, c10, c11, c12, c13, c14, c15, c16, c17, c18, c19, by rw [← hEq]; simp [c0, c1, c2, c3, c4, c5, c6, c7, c8, c9, c10, c11, c12, c13, c14, c15, c16, c17, c18, c19]⟩))))))))))))))))))))))
                                          · exact Or.inr (Or.inr (Or.inr (Or.inr (Or.inr (Or.inr (Or.inr (Or.inr (Or.inr (Or.inr (Or.inr (Or.inr (Or.inr (Or.inr (Or.inr (Or.inr (Or.inr (Or.inr (Or.inr (Or.inr (Or.inr (Or.inr (Or.inr (⟨c0, c1, c2, c3, c4, c5, c6, c7, c8, c9, c10, c11, c12, c13, c14, c15, c16, c17, c18, c19, by rw [← hEq]; simp [c0, c1, c2, c3, c4, c5, c6, c7, c8, c9, c10, c11, c12, c13, c14, c15, c16, c17, c18, c19]⟩)))))))))))))))))))))))
  clear hEq
  go_enter Tryz.func44, Tryz.ntmps44
  go_upto_region 9 with (first
    | (go_at_call 67; (with_reducible refine (TQ1.out _).mono ?_); rintro e w' ⟨rfl, hb⟩; (try replace PB := Lib.hid (PB.out.below hb)); replace ST := Lib.hid (ST.out.call hb); clear hb)
    | (go_at_call 67; (with_reducible refine (TQ2.out _).mono ?_); rintro e w' ⟨rfl, hb⟩; (try replace PB := Lib.hid (PB.out.below hb)); replace ST := Lib.hid (ST.out.call hb); clear hb)
    | (go_at_call 67; (with_reducible refine (TQ3.out _).mono ?_); rintro e w' ⟨rfl, hb⟩; (try replace PB := Lib.hid (PB.out.below hb)); replace ST := Lib.hid (ST.out.call hb); clear hb)
    | ((with_reducible refine Step.gate_build (t := 53) rfl ?_); refine Step.freshSlice (cs := #[.int .i64 0, .int .i64 0, .int .i64 1, .int .i64 0, .int .i64 2, .int .i64 0, .int .i64 0, .int .i64 0, .int .i64 3]) (T := 3) (n := 9) (m := 9) rfl ?hr ?_; (case hr => first | (go_simp; done) | (go_simp; rfl)); intro g9 w1 b hg hb; have PB := Lib.hid (show Blk w1 g9 (Enc.ints ([0, 0, 1, 0, 2, 0, 0, 0, 3] : List Int)) _ from b); replace ST := Lib.hid (ST.out.call hb); clear b hb hg)
    | (go_at_call 68; (with_reducible refine (rpick_any (n := 9) PB.out ([0, 0, 1, 0, 2, 0, 0, 0, 3] : List Int) rfl rfl (by decide) _ HX.out).mono ?_); rintro e w' ⟨rfl, hb⟩; clear PB; replace ST := Lib.hid (ST.out.call hb); clear hb; rw [hs])
    | ((with_reducible refine one_region (id := 5) (fin := ?fin_9) ST.out ?hm_9 [(25, .pointer (some ⟨g1, 5, none⟩)), (26, .int .i64 (imm)), (27, .int .i64 (imm / 4096)), (28, .int .u32 (B0)), (29, .pointer (some ⟨g1, 5, none⟩)), (30, .int .i64 (imm)), (31, .int .i64 (imm / 2048)), (32, .int .u32 (B1)), (33, .int .u32 (bits .or .u32 (B0) (B1))), (34, .pointer (some ⟨g1, 5, none⟩)), (35, .int .i64 (imm)), (36, .int .i64 (imm / 32)), (37, .int .u32 (B2)), (38, .int .u32 (bits .or .u32 (bits .or .u32 (B0) (B1)) (B2))), (39, .pointer (some ⟨g1, 5, none⟩)), (40, .int .i64 (imm)), (41, .int .i64 (imm / 2)), (42, .int .u32 (B3)), (43, .int .u32 (bits .or .u32 (bits .or .u32 (bits .or .u32 (B0) (B1)) (B2)) (B3))), (7, .int .u32 (bits .or .u32 (bits .or .u32 (bits .or .u32 (B0) (B1)) (B2)) (B3)))] ?hord_9 ?hin_9 ?hfin_9 ?hdo_9 ?_); (case hm_9 => rfl); (case hord_9 => kernel_rfl); (case hin_9 => kernel_rfl); (case hfin_9 => (simp only [Reg.puts, Act.put, List.setIfInBounds_toArray, List.set_cons_zero, List.set_cons_succ]; try rfl)); (case hdo_9 => ((repeat' (first | exact stay1_nil | refine stay1_cons ?_ ?_)); all_goals (first | exact stay1_load rfl rfl rfl pl_int rfl rfl | exact stay1_load rfl rfl rfl pl_bool rfl rfl | exact stay1_call rfl rfl (fun X => by go_simp) (fun X => TB0.out X) rfl | exact stay1_call rfl rfl (fun X => by go_simp) (fun X => TB1.out X) rfl | exact stay1_call rfl rfl (fun X => by go_simp) (fun X => TB2.out X) rfl | exact stay1_call rfl rfl (fun X => by go_simp) (fun X => TB3.out X) rfl | exact stay1_slot rfl rfl (fun X => by first | (go_simp; done) | (go_simp; rfl))))); intro w' st_; clear ST; have ST := Lib.hid st_; clear st_)
    | ((with_reducible refine one_region (id := 6) (fin := ?fin_10) ST.out ?hm_10 [(44, .pointer (some ⟨g1, 5, none⟩)), (45, .int .i64 (imm)), (46, .int .i64 (imm / 1048576)), (47, .int .u32 (J0)), (48, .pointer (some ⟨g1, 5, none⟩)), (49, .int .i64 (imm)), (50, .int .i64 (imm / 4096)), (51, .int .u32 (J1)), (52, .int .u32 (bits .or .u32 (J0) (J1))), (53, .pointer (some ⟨g1, 5, none⟩)), (54, .int .i64 (imm)), (55, .int .i64 (imm / 2048)), (56, .int .u32 (J2)), (57, .int .u32 (bits .or .u32 (bits .or .u32 (J0) (J1)) (J2))), (58, .pointer (some ⟨g1, 5, none⟩)), (59, .int .i64 (imm)), (60, .int .i64 (imm / 2)), (61, .int .u32 (J3)), (62, .int .u32 (bits .or .u32 (bits .or .u32 (bits .or .u32 (J0) (J1)) (J2)) (J3))), (8, .int .u32 (bits .or .u32 (bits .or .u32 (bits .or .u32 (J0) (J1)) (J2)) (J3)))] ?hord_10 ?hin_10 ?hfin_10 ?hdo_10 ?_); (case hm_10 => rfl); (case hord_10 => kernel_rfl); (case hin_10 => kernel_rfl); (case hfin_10 => (simp only [Reg.puts, Act.put, List.setIfInBounds_toArray, List.set_cons_zero, List.set_cons_succ]; try rfl)); (case hdo_10 => ((repeat' (first | exact stay1_nil | refine stay1_cons ?_ ?_)); all_goals (first | exact stay1_load rfl rfl rfl pl_int rfl rfl | exact stay1_load rfl rfl rfl pl_bool rfl rfl | exact stay1_call rfl rfl (fun X => by go_simp) (fun X => TJ0.out X) rfl | exact stay1_call rfl rfl (fun X => by go_simp) (fun X => TJ1.out X) rfl | exact stay1_call rfl rfl (fun X => by go_simp) (fun X => TJ2.out X) rfl | exact stay1_call rfl rfl (fun X => by go_simp) (fun X => TJ3.out X) rfl | exact stay1_slot rfl rfl (fun X => by first | (go_simp; done) | (go_simp; rfl))))); intro w' st_; clear ST; have ST := Lib.hid st_; clear st_)
    | ((with_reducible refine Step.gate_box (t := 44) rfl ?_); refine Step.fresh (cs := #[.int .i64 k, .int .i64 fn, .int .i64 rd, .int .i64 rs1, .int .i64 rs2, .int .i64 imm, .int .i64 sz, .bool sg]) (T := 44) rfl ?hr ?_; (case hr => first | (go_simp; done) | (go_simp; rfl)); intro g1 w1 b hg hb; have ST := Lib.hid (S1.made b hg hb); clear b hg hb)
    | ((with_reducible refine Step.gate_store (t := 3) rfl ?_); refine Step.store ST.out.one rfl rfl rfl rfl rfl pl_int rfl rfl ?_; intro w3 nb m; replace ST := Lib.hid (ST.out.set1 nb m); clear nb m)
    | ((with_reducible refine Step.gate_store (t := 4) rfl ?_); refine Step.store ST.out.one rfl rfl rfl rfl rfl pl_bool rfl rfl ?_; intro w3 nb m; replace ST := Lib.hid (ST.out.set1 nb m); clear nb m)
    | ((with_reducible refine Step.gate_store (t := 44) rfl ?_); refine Step.storeAll ST.out.one rfl rfl rfl rfl rfl size_inst rfl rfl ?_; intro w3 nb m; replace ST := Lib.hid (ST.out.set1 nb m); clear nb m)
    | ((with_reducible refine Step.gate_load (t := 3) rfl ?_); refine Step.load ST.out.one rfl rfl rfl pl_int rfl ?_)
    | ((with_reducible refine Step.gate_load (t := 4) rfl ?_); refine Step.load ST.out.one rfl rfl rfl pl_bool rfl ?_)
    | ((with_reducible refine Step.gate_load (t := 44) rfl ?_); refine Step.loadAll ST.out.one rfl rfl rfl Tryz.underlying44 rfl size_inst ?_))
  rcases hd with ⟨c0, hE⟩ | ⟨c0, c1, hE⟩ | ⟨c0, c1, c2, hE⟩ | ⟨c0, c1, c2, c3, hE⟩ | ⟨c0, c1, c2, c3, c4, hE⟩ | ⟨c0, c1, c2, c3, c4, c5, c6, hE⟩ | ⟨c0, c1, c2, c3, c4, c5, c6, hE⟩ | ⟨c0, c1, c2, c3, c4, c5, c6, hE⟩ | ⟨c0, c1, c2, c3, c4, c5, c6, c7, c8, hE⟩ | ⟨c0, c1, c2, c3, c4, c5, c6, c7, c8, hE⟩ | ⟨c0, c1, c2, c3, c4, c5, c6, c7, c8, c9, hE⟩ | ⟨c0, c1, c2, c3, c4, c5, c6, c7, c8, c9, hE⟩ | ⟨c0, c1, c2, c3, c4, c5, c6, c7, c8, c9, hE⟩ | ⟨c0, c1, c2, c3, c4, c5, c6, c7, c8, c9, c10, hE⟩ | ⟨c0, c1, c2, c3, c4, c5, c6, c7, c8, c9, c10, c11, hE⟩ | ⟨c0, c1, c2, c3, c4, c5, c6, c7, c8, c9, c10, c11, c12, hE⟩ | ⟨c0, c1, c2, c3, c4, c5, c6, c7, c8, c9, c10, c11, c12, c13, hE⟩ | ⟨c0, c1, c2, c3, c4, c5, c6, c7, c8, c9, c10, c11, c12, c13, c14, hE⟩ | ⟨c0, c1, c2, c3, c4, c5, c6, c7, c8, c9, c10, c11, c12, c13, c14, c15, hE⟩ | ⟨c0, c1, c2, c3, c4, c5, c6, c7, c8, c9, c10, c11, c12, c13, c14, c15, c16, hE⟩ | ⟨c0, c1, c2, c3, c4, c5, c6, c7, c8, c9, c10, c11, c12, c13, c14, c15, c16, c17, hE⟩ | ⟨c0, c1, c2, c3, c4, c5, c6, c7, c8, c9, c10, c11, c12, c13, c14, c15, c16, c17, c18, hE⟩ | ⟨c0, c1, c2, c3, c4, c5, c6, c7, c8, c9, c10, c11, c12, c13, c14, c15, c16, c17, c18, c19, hE⟩ | ⟨c0, c1, c2, c3, c4, c5, c6, c7, c8, c9, c10, c11, c12, c13, c14, c15, c16, c17, c18, c19, hE⟩
  all_goals subst hE
  all_goals (
    go_wp2_with (first
      | (go_at_call 67; (with_reducible refine (TU0.out _).mono ?_); rintro e w' ⟨rfl, hb⟩; (try replace PB := Lib.hid (PB.out.below hb)); replace ST := Lib.hid (ST.out.call hb); clear hb)
      | (go_at_call 67; (with_reducible refine (TI0.out _).mono ?_); rintro e w' ⟨rfl, hb⟩; (try replace PB := Lib.hid (PB.out.below hb)); replace ST := Lib.hid (ST.out.call hb); clear hb)
      | (go_at_call 67; (with_reducible refine (TF0.out _).mono ?_); rintro e w' ⟨rfl, hb⟩; (try replace PB := Lib.hid (PB.out.below hb)); replace ST := Lib.hid (ST.out.call hb); clear hb)
      | (go_at_call 67; (with_reducible refine (TM0.out _).mono ?_); rintro e w' ⟨rfl, hb⟩; (try replace PB := Lib.hid (PB.out.below hb)); replace ST := Lib.hid (ST.out.call hb); clear hb)
      | (go_at_call 69; (with_reducible refine (TL.out _).mono ?_); rintro e w' ⟨rfl, hb⟩; (try replace PB := Lib.hid (PB.out.below hb)); replace ST := Lib.hid (ST.out.call hb); clear hb)
      | (go_at_call 43; (with_reducible refine (TI.out _ _ _ _).mono ?_); rintro e w' ⟨rfl, hb⟩; (try replace PB := Lib.hid (PB.out.below hb)); replace ST := Lib.hid (ST.out.call hb); clear hb)
      | ((with_reducible refine Step.gate_build (t := 53) rfl ?_); refine Step.freshSlice (cs := #[.int .i64 0, .int .i64 0, .int .i64 1, .int .i64 4, .int .i64 5, .int .i64 6, .int .i64 7]) (T := 3) (n := 7) (m := 7) rfl ?hr ?_; (case hr => first | (go_simp; done) | (go_simp; rfl)); intro g9 w1 b hg hb; have PB := Lib.hid (show Blk w1 g9 (Enc.ints ([0, 0, 1, 4, 5, 6, 7] : List Int)) _ from b); replace ST := Lib.hid (ST.out.call hb); clear b hb hg)
      | ((with_reducible refine Step.gate_build (t := 53) rfl ?_); refine Step.freshSlice (cs := #[.int .i64 0, .int .i64 1, .int .i64 0, .int .i64 4, .int .i64 12, .int .i64 8, .int .i64 16, .int .i64 20, .int .i64 24, .int .i64 28]) (T := 3) (n := 10) (m := 10) rfl ?hr ?_; (case hr => first | (go_simp; done) | (go_simp; rfl)); intro g9 w1 b hg hb; have PB := Lib.hid (show Blk w1 g9 (Enc.ints ([0, 1, 0, 4, 12, 8, 16, 20, 24, 28] : List Int)) _ from b); replace ST := Lib.hid (ST.out.call hb); clear b hb hg)
      | (go_at_call 68; (with_reducible refine (rpick_any (n := 7) PB.out ([0, 0, 1, 4, 5, 6, 7] : List Int) rfl rfl (by decide) _ HY.out).mono ?_); rintro e w' ⟨rfl, hb⟩; clear PB; replace ST := Lib.hid (ST.out.call hb); clear hb; rw [hbv])
      | (go_at_call 68; (with_reducible refine (rpick_any (n := 10) PB.out ([0, 1, 0, 4, 12, 8, 16, 20, 24, 28] : List Int) rfl rfl (by decide) _ HY.out).mono ?_); rintro e w' ⟨rfl, hb⟩; clear PB; replace ST := Lib.hid (ST.out.call hb); clear hb; rw [hav])
      | ((with_reducible refine one_region (id := 25) (fin := ?fin_11) ST.out ?hm_11 [(139, .int .u32 (S)), (140, .int .u32 (S * 4096)), (141, .int .u32 (bits .or .u32 (35) (S * 4096))), (142, .int .u32 (Q2)), (143, .int .u32 (bits .or .u32 (bits .or .u32 (35) (S * 4096)) (Q2))), (144, .int .u32 (Q3)), (145, .int .u32 (bits .or .u32 (bits .or .u32 (bits .or .u32 (35) (S * 4096)) (Q2)) (Q3))), (146, .pointer (some ⟨g1, 5, none⟩)), (147, .int .i64 (imm)), (148, .int .u32 (S0)), (149, .int .u32 (bits .or .u32 (bits .or .u32 (bits .or .u32 (bits .or .u32 (35) (S * 4096)) (Q2)) (Q3)) (S0))), (150, .pointer (some ⟨g1, 5, none⟩)), (151, .int .i64 (imm)), (152, .int .i64 (imm / 32)), (153, .int .u32 (S7)), (154, .int .u32 (bits .or .u32 (bits .or .u32 (bits .or .u32 (bits .or .u32 (bits .or .u32 (35) (S * 4096)) (Q2)) (Q3)) (S0)) (S7))), (2, .int .u32 (bits .or .u32 (bits .or .u32 (bits .or .u32 (bits .or .u32 (bits .or .u32 (35) (S * 4096)) (Q2)) (Q3)) (S0)) (S7)))] ?hord_11 ?hin_11 ?hfin_11 ?hdo_11 ?_); (case hm_11 => rfl); (case hord_11 => kernel_rfl); (case hin_11 => kernel_rfl); (case hfin_11 => (simp only [Reg.puts, Act.put, List.setIfInBounds_toArray, List.set_cons_zero, List.set_cons_succ]; try rfl)); (case hdo_11 => ((repeat' (first | exact stay1_nil | refine stay1_cons ?_ ?_)); all_goals (first | exact stay1_load rfl rfl rfl pl_int rfl rfl | exact stay1_load rfl rfl rfl pl_bool rfl rfl | exact stay1_call rfl rfl (fun X => by go_simp) (fun X => TS0.out X) rfl | exact stay1_call rfl rfl (fun X => by go_simp) (fun X => TS7.out X) rfl | exact stay1_slot rfl rfl (fun X => by first | (go_simp; done) | (go_simp; rfl))))); intro w' st_; clear ST; have ST := Lib.hid st_; clear st_)
      | ((with_reducible refine one_region (id := 28) (fin := ?fin_16) ST.out ?hm_16 [(160, .pointer (some ⟨g1, 1, none⟩)), (161, .int .i64 (fn)), (162, .int .u32 (A)), (163, .int .u32 (bits .or .u32 (27) (A))), (164, .int .u32 (Q1)), (165, .int .u32 (bits .or .u32 (bits .or .u32 (27) (A)) (Q1))), (166, .int .u32 (Q2)), (167, .int .u32 (bits .or .u32 (bits .or .u32 (bits .or .u32 (27) (A)) (Q1)) (Q2))), (168, .pointer (some ⟨g1, 5, none⟩)), (169, .int .i64 (imm)), (170, .int .u32 (I0)), (171, .int .u32 (bits .or .u32 (bits .or .u32 (bits .or .u32 (bits .or .u32 (27) (A)) (Q1)) (Q2)) (I0))), (2, .int .u32 (bits .or .u32 (bits .or .u32 (bits .or .u32 (bits .or .u32 (27) (A)) (Q1)) (Q2)) (I0)))] ?hord_16 ?hin_16 ?hfin_16 ?hdo_16 ?_); (case hm_16 => rfl); (case hord_16 => kernel_rfl); (case hin_16 => kernel_rfl); (case hfin_16 => (simp only [Reg.puts, Act.put, List.setIfInBounds_toArray, List.set_cons_zero, List.set_cons_succ]; try rfl)); (case hdo_16 => ((repeat' (first | exact stay1_nil | refine stay1_cons ?_ ?_)); all_goals (first | exact stay1_load rfl rfl rfl pl_int rfl rfl | exact stay1_load rfl rfl rfl pl_bool rfl rfl | exact stay1_call rfl rfl (fun X => by go_simp) (fun X => TL.out X) rfl | exact stay1_call rfl rfl (fun X => by go_simp) (fun X => TI0.out X) rfl | exact stay1_slot rfl rfl (fun X => by first | (go_simp; done) | (go_simp; rfl))))); intro w' st_; clear ST; have ST := Lib.hid st_; clear st_)
      | ((with_reducible refine one_region (id := 29) (fin := ?fin_17) ST.out ?hm_17 [(172, .pointer (some ⟨g1, 1, none⟩)), (173, .int .i64 (fn)), (174, .int .u32 (A)), (175, .int .u32 (bits .or .u32 (19) (A))), (176, .int .u32 (Q1)), (177, .int .u32 (bits .or .u32 (bits .or .u32 (19) (A)) (Q1))), (178, .int .u32 (Q2)), (179, .int .u32 (bits .or .u32 (bits .or .u32 (bits .or .u32 (19) (A)) (Q1)) (Q2))), (180, .pointer (some ⟨g1, 5, none⟩)), (181, .int .i64 (imm)), (182, .int .u32 (I0)), (183, .int .u32 (bits .or .u32 (bits .or .u32 (bits .or .u32 (bits .or .u32 (19) (A)) (Q1)) (Q2)) (I0))), (2, .int .u32 (bits .or .u32 (bits .or .u32 (bits .or .u32 (bits .or .u32 (19) (A)) (Q1)) (Q2)) (I0)))] ?hord_17 ?hin_17 ?hfin_17 ?hdo_17 ?_); (case hm_17 => rfl); (case hord_17 => kernel_rfl); (case hin_17 => kernel_rfl); (case hfin_17 => (simp only [Reg.puts, Act.put, List.setIfInBounds_toArray, List.set_cons_zero, List.set_cons_succ]; try rfl)); (case hdo_17 => ((repeat' (first | exact stay1_nil | refine stay1_cons ?_ ?_)); all_goals (first | exact stay1_load rfl rfl rfl pl_int rfl rfl | exact stay1_load rfl rfl rfl pl_bool rfl rfl | exact stay1_call rfl rfl (fun X => by go_simp) (fun X => TL.out X) rfl | exact stay1_call rfl rfl (fun X => by go_simp) (fun X => TI0.out X) rfl | exact stay1_slot rfl rfl (fun X => by first | (go_simp; done) | (go_simp; rfl))))); intro w' st_; clear ST; have ST := Lib.hid st_; clear st_)
      | ((with_reducible refine one_region (id := 47) (fin := ?fin_18) ST.out ?hm_18 [(219, .pointer (some ⟨g1, 1, none⟩)), (220, .int .i64 (fn)), (221, .int .u32 (C0)), (222, .int .u32 (bits .or .u32 (115) (C0))), (223, .int .u32 (Q1)), (224, .int .u32 (bits .or .u32 (bits .or .u32 (115) (C0)) (Q1))), (225, .int .u32 (Q2)), (226, .int .u32 (bits .or .u32 (bits .or .u32 (bits .or .u32 (115) (C0)) (Q1)) (Q2))), (227, .pointer (some ⟨g1, 5, none⟩)), (228, .int .i64 (imm)), (229, .int .u32 (I0)), (230, .int .u32 (bits .or .u32 (bits .or .u32 (bits .or .u32 (bits .or .u32 (115) (C0)) (Q1)) (Q2)) (I0))), (2, .int .u32 (bits .or .u32 (bits .or .u32 (bits .or .u32 (bits .or .u32 (115) (C0)) (Q1)) (Q2)) (I0)))] ?hord_18 ?hin_18 ?hfin_18 ?hdo_18 ?_); (case hm_18 => rfl); (case hord_18 => kernel_rfl); (case hin_18 => kernel_rfl); (case hfin_18 => (simp only [Reg.puts, Act.put, List.setIfInBounds_toArray, List.set_cons_zero, List.set_cons_succ]; try rfl)); (case hdo_18 => ((repeat' (first | exact stay1_nil | refine stay1_cons ?_ ?_)); all_goals (first | exact stay1_load rfl rfl rfl pl_int rfl rfl | exact stay1_load rfl rfl rfl pl_bool rfl rfl | exact stay1_call rfl rfl (fun X => by go_simp) (fun X => TC0.out X) rfl | exact stay1_call rfl rfl (fun X => by go_simp) (fun X => TI0.out X) rfl | exact stay1_slot rfl rfl (fun X => by first | (go_simp; done) | (go_simp; rfl))))); intro w' st_; clear ST; have ST := Lib.hid st_; clear st_)
      | ((with_reducible refine one_region (id := 49) (fin := ?fin_19) ST.out ?hm_19 [(233, .pointer (some ⟨g1, 1, none⟩)), (234, .int .i64 (fn)), (235, .int .u32 (C0)), (236, .int .u32 (bits .or .u32 (16499) (C0))), (237, .int .u32 (Q1)), (238, .int .u32 (bits .or .u32 (bits .or .u32 (16499) (C0)) (Q1))), (239, .int .u32 (Q2)), (240, .int .u32 (bits .or .u32 (bits .or .u32 (bits .or .u32 (16499) (C0)) (Q1)) (Q2))), (241, .pointer (some ⟨g1, 5, none⟩)), (242, .int .i64 (imm)), (243, .int .u32 (I0)), (244, .int .u32 (bits .or .u32 (bits .or .u32 (bits .or .u32 (bits .or .u32 (16499) (C0)) (Q1)) (Q2)) (I0))), (2, .int .u32 (bits .or .u32 (bits .or .u32 (bits .or .u32 (bits .or .u32 (16499) (C0)) (Q1)) (Q2)) (I0)))] ?hord_19 ?hin_19 ?hfin_19 ?hdo_19 ?_); (case hm_19 => rfl); (case hord_19 => kernel_rfl); (case hin_19 => kernel_rfl); (case hfin_19 => (simp only [Reg.puts, Act.put, List.setIfInBounds_toArray, List.set_cons_zero, List.set_cons_succ]; try rfl)); (case hdo_19 => ((repeat' (first | exact stay1_nil | refine stay1_cons ?_ ?_)); all_goals (first | exact stay1_load rfl rfl rfl pl_int rfl rfl | exact stay1_load rfl rfl rfl pl_bool rfl rfl | exact stay1_call rfl rfl (fun X => by go_simp) (fun X => TC0.out X) rfl | exact stay1_call rfl rfl (fun X => by go_simp) (fun X => TI0.out X) rfl | exact stay1_slot rfl rfl (fun X => by first | (go_simp; done) | (go_simp; rfl))))); intro w' st_; clear ST; have ST := Lib.hid st_; clear st_)
      | ((with_reducible refine Step.gate_store (t := 3) rfl ?_); refine Step.store ST.out.one rfl rfl rfl rfl rfl pl_int rfl rfl ?_; intro w3 nb m; replace ST := Lib.hid (ST.out.set1 nb m); clear nb m)
      | ((with_reducible refine Step.gate_store (t := 4) rfl ?_); refine Step.store ST.out.one rfl rfl rfl rfl rfl pl_bool rfl rfl ?_; intro w3 nb m; replace ST := Lib.hid (ST.out.set1 nb m); clear nb m)
      | ((with_reducible refine Step.gate_store (t := 44) rfl ?_); refine Step.storeAll ST.out.one rfl rfl rfl rfl rfl size_inst rfl rfl ?_; intro w3 nb m; replace ST := Lib.hid (ST.out.set1 nb m); clear nb m)
      | ((with_reducible refine Step.gate_load (t := 3) rfl ?_); refine Step.load ST.out.one rfl rfl rfl pl_int rfl ?_)
      | ((with_reducible refine Step.gate_load (t := 4) rfl ?_); refine Step.load ST.out.one rfl rfl rfl pl_bool rfl ?_)
      | ((with_reducible refine Step.gate_load (t := 44) rfl ?_); refine Step.loadAll ST.out.one rfl rfl rfl Tryz.underlying44 rfl size_inst ?_))
    go_ret
    exact ⟨rfl, ST.out.below⟩)
end Go.Proofs.YthkodjkkcgdmfaaGreat.Enc
end
section
namespace Go.Proofs.YthkodjkkcgdmfaaGreat.Enc
open Go Go.RowKit Go.Proofs.YthkodjkkcgdmfaaGreat.Step
set_option linter.unusedVariables false
set_option linter.unusedSimpArgs false
set_option maxRecDepth 100000
theorem rsystem_18 (x s rd rs1 rs2 : Int) (w : World) : Calls Tryz.prog 76 #[.int .u32 270532723, .int .i64 x, .int .i64 s, .int .i64 rd, .int .i64 rs1, .int .i64 rs2] w fun e w' => e = .returned (told (some ⟨18, 0, 0, 0, 0, 0, 0, false⟩)) ∧ Below w.heap.size w w' := by
  go_enter Tryz.func76, Tryz.ntmps76
  go_wp2_with (first
    | ((with_reducible refine Step.gate_alloc (t := 44) rfl ?_); refine Step.freshAlloc rfl rfl (alloc_agg zero_inst) ?_; intro g1 w1 b hg hb; have ST := Lib.hid (S1.made b hg hb); clear b hg hb)
    | ((with_reducible refine Step.gate_store (t := 3) rfl ?_); refine Step.store ST.out.one rfl rfl rfl rfl rfl pl_int rfl rfl ?_; intro w3 nb m; have st_ := Lib.hid (ST.out.set1 nb m); clear ST nb m; have ST := st_)
    | ((with_reducible refine Step.gate_store (t := 4) rfl ?_); refine Step.store ST.out.one rfl rfl rfl rfl rfl pl_bool rfl rfl ?_; intro w3 nb m; have st_ := Lib.hid (ST.out.set1 nb m); clear ST nb m; have ST := st_)
    | ((with_reducible refine Step.gate_store (t := 44) rfl ?_); refine Step.storeAll ST.out.one rfl rfl rfl rfl rfl size_inst rfl rfl ?_; intro w3 nb m; have st_ := Lib.hid (ST.out.set1 nb m); clear ST nb m; have ST := st_)
    | ((with_reducible refine Step.gate_load (t := 3) rfl ?_); refine Step.load ST.out.one rfl rfl rfl pl_int rfl ?_)
    | ((with_reducible refine Step.gate_load (t := 4) rfl ?_); refine Step.load ST.out.one rfl rfl rfl pl_bool rfl ?_)
    | ((with_reducible refine Step.gate_load (t := 44) rfl ?_); refine Step.loadAll ST.out.one rfl rfl rfl Tryz.underlying44 rfl size_inst ?_))
  refine bodyPost_ret (results_row_tmp rfl _ _ g1 _ _ _ rfl ST.out.one Tryz.underlying44 rfl size_inst) rfl ⟨rfl, ST.out.below⟩
end Go.Proofs.YthkodjkkcgdmfaaGreat.Enc
end
section
namespace Go.Proofs.YthkodjkkcgdmfaaGreat.Enc
open Go Go.RowKit Go.Proofs.YthkodjkkcgdmfaaGreat.Step
set_option linter.unusedVariables false
set_option linter.unusedSimpArgs false
set_option maxRecDepth 100000
set_option maxHeartbeats 8000000 in
theorem rdec_115_of (a : Int) (ha : W32 a) (hop : fd a 6 0 = 115) (d : Option Ins) (TS : Hid (∀ w, Calls Tryz.prog 76 #[.int .u32 a, .int .i64 (fd a 14 12), .int .i64 (fd a 31 25), .int .i64 (fd a 11 7), .int .i64 (fd a 19 15), .int .i64 (fd a 24 20)] w fun e w' => e = .returned (told d) ∧ Below w.heap.size w w')) (w : World) : Calls Tryz.prog 45 #[.int .u32 a] w fun e w' => e = .returned (told d) ∧ Below w.heap.size w w' := by
  have T0 := Lib.hid (fun w => calls_below (rbits_any a 14 12 14 12 ha rfl rfl (by decide) (by decide) w))
  have T1 := Lib.hid (fun w => calls_below (rbits_any a 31 25 31 25 ha rfl rfl (by decide) (by decide) w))
  have T2 := Lib.hid (fun w => calls_below (rbits_any a 11 7 11 7 ha rfl rfl (by decide) (by decide) w))
  have T3 := Lib.hid (fun w => calls_below (rbits_any a 19 15 19 15 ha rfl rfl (by decide) (by decide) w))
  have T4 := Lib.hid (fun w => calls_below (rbits_any a 24 20 24 20 ha rfl rfl (by decide) (by decide) w))
  have T5 := Lib.hid (fun w => calls_below (rbits_any a 31 26 31 26 ha rfl rfl (by decide) (by decide) w))
  have T6 := Lib.hid (fun w => calls_below (rbits_any a 25 20 25 20 ha rfl rfl (by decide) (by decide) w))
  have TO := Lib.hid (fun w => calls_below (rbits_any a 6 0 6 0 ha rfl rfl (by decide) (by decide) w))
  have HX := Lib.hid (fd_lit (a := a) (h := 14) (l := 12) (n := 8) rfl)
  rw [hop] at TO
  clear hop
  generalize fd a 14 12 = x at *
  generalize fd a 31 25 = s at *
  generalize fd a 11 7 = rd at *
  generalize fd a 19 15 = rs1 at *
  generalize fd a 24 20 = rs2 at *
  generalize fd a 31 26 = hi at *
  generalize fd a 25 20 = sh at *
  have hs : ∃ r1 r2 r3 r4 r5 r6 r7 r8 r9, told d = .tuple #[.agg #[.int .i64 r1, .int .i64 r2, .int .i64 r3, .int .i64 r4, .int .i64 r5, .int .i64 r6, .int .i64 r7, .bool r8], .bool r9] := by
    cases d with
    | none => exact ⟨_, _, _, _, _, _, _, _, _, rfl⟩
    | some j => exact ⟨_, _, _, _, _, _, _, _, _, rfl⟩
  obtain ⟨r1, r2, r3, r4, r5, r6, r7, r8, r9, hs⟩ := hs
  rw [hs] at TS ⊢
  clear hs
  go_enter Tryz.func45, Tryz.ntmps45
  go_wp2_with (first
    | (go_at_call 70; (with_reducible refine (T0.out _).mono ?_); rintro e w' ⟨rfl, hb⟩; (try replace PB := Lib.hid (PB.out.below hb)); replace ST := Lib.hid (ST.out.call hb); clear hb)
    | (go_at_call 70; (with_reducible refine (T1.out _).mono ?_); rintro e w' ⟨rfl, hb⟩; (try replace PB := Lib.hid (PB.out.below hb)); replace ST := Lib.hid (ST.out.call hb); clear hb)
    | (go_at_call 70; (with_reducible refine (T2.out _).mono ?_); rintro e w' ⟨rfl, hb⟩; (try replace PB := Lib.hid (PB.out.below hb)); replace ST := Lib.hid (ST.out.call hb); clear hb)
    | (go_at_call 70; (with_reducible refine (T3.out _).mono ?_); rintro e w' ⟨rfl, hb⟩; (try replace PB := Lib.hid (PB.out.below hb)); replace ST := Lib.hid (ST.out.call hb); clear hb)
    | (go_at_call 70; (with_reducible refine (T4.out _).mono ?_); rintro e w' ⟨rfl, hb⟩; (try replace PB := Lib.hid (PB.out.below hb)); replace ST := Lib.hid (ST.out.call hb); clear hb)
    | (go_at_call 70; (with_reducible refine (T5.out _).mono ?_); rintro e w' ⟨rfl, hb⟩; (try replace PB := Lib.hid (PB.out.below hb)); replace ST := Lib.hid (ST.out.call hb); clear hb)
    | (go_at_call 70; (with_reducible refine (T6.out _).mono ?_); rintro e w' ⟨rfl, hb⟩; (try replace PB := Lib.hid (PB.out.below hb)); replace ST := Lib.hid (ST.out.call hb); clear hb)
    | (go_at_call 70; (with_reducible refine (TO.out _).mono ?_); rintro e w' ⟨rfl, hb⟩; (try replace PB := Lib.hid (PB.out.below hb)); replace ST := Lib.hid (ST.out.call hb); clear hb)
    | (go_at_call 76; (with_reducible refine (TS.out _).mono ?_); rintro e w' ⟨rfl, hb⟩; (try replace PB := Lib.hid (PB.out.below hb)); replace ST := Lib.hid (ST.out.call hb); clear hb)
    | ((with_reducible refine Step.gate_alloc (t := 44) rfl ?_); refine Step.freshAlloc rfl rfl (alloc_agg zero_inst) ?_; intro g2 w2 b hg hb; replace ST := Lib.hid (ST.out.more b hg hb); clear b hg hb)
    | ((with_reducible refine Step.gate_alloc (t := 44) rfl ?_); refine Step.freshAlloc rfl rfl (alloc_agg zero_inst) ?_; intro g1 w1 b hg hb; have ST := Lib.hid (S1.made b hg hb); clear b hg hb)
    | ((with_reducible refine Step.gate_store (t := 3) rfl ?_); refine Step.store ST.out.one rfl rfl rfl rfl rfl pl_int rfl rfl ?_; intro w3 nb m; replace ST := Lib.hid (ST.out.set1 nb m); clear nb m)
    | ((with_reducible refine Step.gate_store (t := 4) rfl ?_); refine Step.store ST.out.one rfl rfl rfl rfl rfl pl_bool rfl rfl ?_; intro w3 nb m; replace ST := Lib.hid (ST.out.set1 nb m); clear nb m)
    | ((with_reducible refine Step.gate_store (t := 44) rfl ?_); refine Step.storeAll ST.out.one rfl rfl rfl rfl rfl size_inst rfl rfl ?_; intro w3 nb m; replace ST := Lib.hid (ST.out.set1 nb m); clear nb m)
    | ((with_reducible refine Step.gate_load (t := 3) rfl ?_); refine Step.load ST.out.one rfl rfl rfl pl_int rfl ?_)
    | ((with_reducible refine Step.gate_load (t := 4) rfl ?_); refine Step.load ST.out.one rfl rfl rfl pl_bool rfl ?_)
    | ((with_reducible refine Step.gate_load (t := 44) rfl ?_); refine Step.loadAll ST.out.one rfl rfl rfl Tryz.underlying44 rfl size_inst ?_)
    | ((with_reducible refine Step.gate_store (t := 3) rfl ?_); refine Step.store ST.out.two rfl rfl rfl rfl rfl pl_int rfl rfl ?_; intro w3 nb m; replace ST := Lib.hid (ST.out.set2 nb m); clear nb m)
    | ((with_reducible refine Step.gate_store (t := 4) rfl ?_); refine Step.store ST.out.two rfl rfl rfl rfl rfl pl_bool rfl rfl ?_; intro w3 nb m; replace ST := Lib.hid (ST.out.set2 nb m); clear nb m)
    | ((with_reducible refine Step.gate_store (t := 44) rfl ?_); refine Step.storeAll ST.out.two rfl rfl rfl rfl rfl size_inst rfl rfl ?_; intro w3 nb m; replace ST := Lib.hid (ST.out.set2 nb m); clear nb m)
    | ((with_reducible refine Step.gate_load (t := 3) rfl ?_); refine Step.load ST.out.two rfl rfl rfl pl_int rfl ?_)
    | ((with_reducible refine Step.gate_load (t := 4) rfl ?_); refine Step.load ST.out.two rfl rfl rfl pl_bool rfl ?_)
    | ((with_reducible refine Step.gate_load (t := 44) rfl ?_); refine Step.loadAll ST.out.two rfl rfl rfl Tryz.underlying44 rfl size_inst ?_))
  refine bodyPost_ret (results_row_tmp rfl _ _ g1 _ _ _ rfl ST.out.one Tryz.underlying44 rfl size_inst) rfl ⟨rfl, ST.out.below⟩
end Go.Proofs.YthkodjkkcgdmfaaGreat.Enc
end
section
namespace Go.Proofs.YthkodjkkcgdmfaaGreat.Enc
open Go Go.RowKit Go.Proofs.YthkodjkkcgdmfaaGreat.Step
set_option linter.unusedVariables false
set_option linter.unusedSimpArgs false
set_option maxRecDepth 100000
section
variable {P : Program} {ops : Array Oper} {rest : List Oper} {o : Oper} {a : Act} {W : World} {Q : Exit → Act → World → Prop}
/-- A variable of several cells is read, by an operation whose guard says yes. -/
theorem loadAllW {t : TypeId} {x : Operand} {g : Nat} {cs : Array Value} {T : TypeId} {d : TypeDesc} (hB : Blk W g cs T) (hw : Region.wanted o (yielded ops a.tmps) = true) (ho : o.op = .load t x) (hx : a.eval x = .pointer (some ⟨g, 0, none⟩)) (hu : P.underlying t = some d)
    (hd : (match d with | .struct _ | .array _ _ => true | _ => false) = true) (hi : (P.info? t).map (·.size) = some cs.size) (h : wpList P ops Q rest (a.put o.dst (.agg cs)) W) : wpList P ops Q (o :: rest) a W := by
  refine BigFrame.wpList_want hw fun K hK => ?_
  have h1 := run_loadVar_row (P := P) W g T t cs (0, 0) d hB.out hu hd hi
  have h2 : (execOp a.eval o).run P W = .ok (.value (.agg cs)) W := by simp [execOp, ho, hx, Instr.loadAt, Instr.sureAddr, h1, Result.andThen]
  unfold Oper.wp; rw [h2]; exact hK _ _ h
end
end Go.Proofs.YthkodjkkcgdmfaaGreat.Enc
end
section
namespace Go.Proofs.YthkodjkkcgdmfaaGreat.Enc
open Go Go.RowKit Go.Proofs.YthkodjkkcgdmfaaGreat.Step
set_option linter.unusedVariables false
set_option linter.unusedSimpArgs false
set_option maxRecDepth 100000
section
variable {P : Program} {ops : Array Oper} {rest : List Oper} {o : Oper} {a : Act} {W : World} {Q : Exit → Act → World → Prop}
/-- A cell is read, by an operation whose guard says yes. -/
theorem loadW1 {t : TypeId} {x : Operand} {g i : Nat} {cs : Array Value} {T : TypeId} {v : Value} (hB : Blk W g cs T) (hw : Region.wanted o (yielded ops a.tmps) = true) (ho : o.op = .load t x) (hx : a.eval x = .pointer (some ⟨g, i, none⟩)) (ht : plainT P t = true) (hv : cs[i]? = some v)
    (h : wpList P ops Q rest (a.put o.dst v) W) : wpList P ops Q (o :: rest) a W := by
  refine BigFrame.wpList_want hw fun K hK => ?_
  have h1 := run_load1 (P := P) ht ((hB.cell i).trans hv)
  have h2 : (execOp a.eval o).run P W = .ok (.value v) W := by simp [execOp, ho, hx, h1, Result.andThen]
  unfold Oper.wp; rw [h2]; exact hK _ _ h
end
/-- The fields are within the document's bounds. -/
def InR (i : Ins) : Prop := (-2147483648 ≤ i.imm ∧ i.imm < 2147483648) ∧ (0 ≤ i.rd ∧ i.rd ≤ 31) ∧ (0 ≤ i.rs1 ∧ i.rs1 ≤ 31) ∧ (0 ≤ i.rs2 ∧ i.rs2 ≤ 31) ∧ (0 ≤ i.fn ∧ i.fn ≤ 28) ∧ (0 ≤ i.sz ∧ i.sz ≤ 8)
end Go.Proofs.YthkodjkkcgdmfaaGreat.Enc
end
section
namespace Go.Proofs.YthkodjkkcgdmfaaGreat.Enc
open Go Go.RowKit
set_option linter.unusedVariables false
set_option linter.unusedSimpArgs false
set_option maxRecDepth 100000
theorem z28 : (0 : Int) ≤ 0 ∧ (0 : Int) ≤ 28 := by decide
def wordP (i : Ins) : Int := wordF i.k i.fn i.rd i.rs1 i.rs2 i.imm i.sz i.sg
theorem p0 (n l : Nat) : pt 0 n l = 0 := pt0 n l
end Go.Proofs.YthkodjkkcgdmfaaGreat.Enc
end
section
namespace Go.Proofs.YthkodjkkcgdmfaaGreat.Enc
open Go Go.RowKit Go.Proofs.YthkodjkkcgdmfaaGreat.Step
set_option linter.unusedVariables false
set_option linter.unusedSimpArgs false
set_option maxRecDepth 100000
theorem rDec_115_18 (w : World) : Calls Tryz.prog 45 #[.int .u32 270532723] w fun e w' => e = .returned (told (dec 270532723)) ∧ Below w.heap.size w w' := by
  have hop : fd 270532723 6 0 = 115 := by kernel_rfl
  unfold dec
  rw [hop, show decOp 115 270532723 = sysD 270532723 from by simp [decOp]]
  refine rdec_115_of 270532723 ⟨by decide, by decide⟩ hop (sysD 270532723) (Lib.hid fun w => ?_) w
  rw [show sysD 270532723 = some ⟨18, 0, 0, 0, 0, 0, 0, false⟩ from by simp [sysD]]
  exact rsystem_18 (fd 270532723 14 12) (fd 270532723 31 25) (fd 270532723 11 7) (fd 270532723 19 15) (fd 270532723 24 20) w
end Go.Proofs.YthkodjkkcgdmfaaGreat.Enc
end
section
namespace Go.Proofs.YthkodjkkcgdmfaaGreat.Duo
open Go Go.RowKit Go.Proofs.YthkodjkkcgdmfaaGreat.Step
open Go.Proofs.YthkodjkkcgdmfaaGreat.Mem (Ram Grow hasB wholeB num wr Rd fl Arg lst)
set_option linter.unusedVariables false
set_option linter.unusedSimpArgs false
set_option maxRecDepth 100000
set_option maxHeartbeats 1000000 in
theorem wboth4 {W w : World} {h1 h2 n : Nat} {base : Int} {mem : Nat → Int} {F1 F2 : Nat → Prop} (d : Duo W w h1 h2 base n mem F1 F2) (addr v : Int) (ha : 0 ≤ addr ∧ addr < 18446744073709551616) (hv : 0 ≤ v ∧ v < 18446744073709551616) (hh : hasB base n addr 4 = true) :
    Calls Tryz.prog 28 #[.agg #[.pointer (some ⟨h1, 0, none⟩), .pointer (some ⟨h2, 0, none⟩)], .int .u64 addr, .int .i64 4, .int .u64 v] w fun e w' => e = .returned (.tuple #[]) ∧ ∃ F1' F2', Duo W w' h1 h2 base n (wr mem (addr - base).toNat 4 v) F1' F2' ∧ (∀ k, k < w.heap.size → F1' k → F1 k) ∧ (∀ k, k < w.heap.size → F2' k → F2 k) ∧ Mod (fun k => F1 k ∨ F2 k) w w' := by
  have D := Lib.hid d
  have P1 := Lib.hid (fun (w1 : World) (r : Ram w1 h1 base n mem F1) => write_z r addr v 4 4 rfl ha hv (by decide) hh)
  have P2 := Lib.hid (fun (w1 : World) (r : Ref.Mem w1 h2 base n mem F2) => rwrite_z r addr v 4 4 rfl ha hv (by decide) hh)
  have hu := Tryz.underlying40
  clear d ha hv hh
  go_enter Tryz.func28, Tryz.ntmps28
  go_wp2_with (first
    | ((with_reducible refine Step.gate_box (t := 40) rfl ?_); refine Step.fresh (cs := #[.pointer (some ⟨h1, 0, none⟩), .pointer (some ⟨h2, 0, none⟩)]) (T := 40) rfl ?hr ?_; (case hr => first | (go_simp; done) | (go_simp; rfl)); intro g w2 b hg hb; have c0 := b.cell 0; have B := Lib.hid b; have D2 := Lib.hid (D.out.below hb); have HB := Lib.hid hb; have HG := Lib.hid hg; simp only [List.getElem?_toArray, List.getElem?_cons_zero] at c0; clear b hg hb)
    | (go_at_call 46; refine (P1.out _ D2.out.one).mono ?_; rintro e w3 ⟨rfl, r, m⟩; have R1 := Lib.hid r; have M1 := Lib.hid m; have c1 := (((B.out.mod m (fun hf => by have := D.out.bound g (.inl hf); have := HG.out; omega)).cell 1)); have r2 := Lib.hid (D2.out.two.mod m (fun k h2 h1 => D.out.apart k h1 h2)); simp only [List.getElem?_toArray, List.getElem?_cons_zero, List.getElem?_cons_succ] at c1; clear r m)
    | (go_at_call 29; refine (P2.out _ r2.out).mono ?_; rintro e w4 ⟨rfl, r, m⟩; have R2 := Lib.hid r; have M2 := Lib.hid m; clear r m))
  go_end0
  have dd := D2.out.step R1.out M1.out R2.out M2.out
  have hs := HB.out.size
  refine ⟨rfl, _, _, dd, fun k hk h => h.elim id fun h => by omega, fun k hk h => h.elim id fun h => by have := M1.out.size; omega, ?_⟩
  refine ((Mod.of_below HB.out _).trans (M1.out.mono fun k _ h => .inl h)).trans (M2.out.mono fun k _ h => .inr h)
end Go.Proofs.YthkodjkkcgdmfaaGreat.Duo
namespace Go.Proofs.YthkodjkkcgdmfaaGreat.Hart
open Go Go.RowKit Go.Proofs.YthkodjkkcgdmfaaGreat.Step Go.Proofs.YthkodjkkcgdmfaaGreat.Enc Go.Proofs.YthkodjkkcgdmfaaGreat.Kn
open Go.Proofs.YthkodjkkcgdmfaaGreat.Mem (Ram Grow hasB newB wholeB num wr Rd fl Arg lst)
open Go.Proofs.YthkodjkkcgdmfaaGreat.Duo (Duo RdC cm size_two)
set_option linter.unusedVariables false
set_option linter.unusedSimpArgs false
set_option maxRecDepth 100000
set_option maxHeartbeats 4000000 in
theorem rEncode_at (i : Ins) (u : Int) (hr : InR i) (hu : W32 u) (hd : dec u = some i) (T1 : Hid (∀ w, Calls Tryz.prog 45 #[.int .u32 u] w fun e w' => e = .returned (told (dec u)) ∧ Below w.heap.size w w')) (T0 : Hid (∀ w, Calls Tryz.prog 44 #[.agg i.cells] w fun e w' => e = .returned (.int .u32 u) ∧ Below w.heap.size w w')) (w : World) :
    Calls Tryz.prog 27 #[.agg i.cells] w fun e w' => e = .returned (.tuple #[.int .u32 u, .bool true]) ∧ Below w.heap.size w w' := by
  have TI := Lib.hid in_any
  obtain ⟨k, fn, rd, rs1, rs2, imm, sz, sg⟩ := i
  have hf : decide (imm < -2147483648) = false ∧ decide (2147483648 ≤ imm) = false ∧ (decide (0 ≤ rd) && decide (rd ≤ 31)) = true ∧ (decide (0 ≤ rs1) && decide (rs1 ≤ 31)) = true ∧ (decide (0 ≤ rs2) && decide (rs2 ≤ 31)) = true ∧ (decide (0 ≤ fn) && decide (fn ≤ 28)) = true ∧ (decide (0 ≤ sz) && decide (sz ≤ 8)) = true := by
    simp only [InR] at hr
    refine ⟨decide_eq_false (by omega), decide_eq_false (by omega), ?_, ?_, ?_, ?_, ?_⟩ <;> (simp only [Bool.and_eq_true, decide_eq_true_eq]; omega)
  clear hr
  obtain ⟨f0, f1, f2, f3, f4, f5, f6⟩ := hf
  simp only [Ins.cells] at T0 ⊢
  rw [hd] at T1
  clear hd hu
  simp only [told, Ins.cells] at T1
  go_enter Tryz.func27, Tryz.ntmps27
  go_wp2_with (first
    | (go_at_call 43; (with_reducible refine (TI.out _ _ _ _).mono ?_); rintro e w' ⟨rfl, hb⟩; (try replace PB := Lib.hid (PB.out.below hb)); replace ST := Lib.hid (ST.out.call hb); clear hb)
    | (go_at_call 44; (with_reducible refine (T0.out _).mono ?_); rintro e w' ⟨rfl, hb⟩; (try replace PB := Lib.hid (PB.out.below hb)); replace ST := Lib.hid (ST.out.call hb); clear hb)
    | (go_at_call 45; (with_reducible refine (T1.out _).mono ?_); rintro e w' ⟨rfl, hb⟩; (try replace PB := Lib.hid (PB.out.below hb)); replace ST := Lib.hid (ST.out.call hb); clear hb)
    | ((with_reducible refine Step.gate_alloc (t := 44) rfl ?_); refine Step.freshAlloc rfl rfl (alloc_agg zero_inst) ?_; intro g2 w2 b hg hb; replace ST := Lib.hid (ST.out.more b hg hb); clear b hg hb)
    | ((with_reducible refine Step.gate_box (t := 44) rfl ?_); refine Step.fresh (cs := #[.int .i64 k, .int .i64 fn, .int .i64 rd, .int .i64 rs1, .int .i64 rs2, .int .i64 imm, .int .i64 sz, .bool sg]) (T := 44) rfl ?hr ?_; (case hr => first | (go_simp; done) | (go_simp; rfl)); intro g1 w1 b hg hb; have ST := Lib.hid (S1.made b hg hb); clear b hg hb)
    | ((with_reducible refine Step.gate_load (t := 3) rfl ?_); refine loadW1 ST.out.one rfl rfl rfl pl_int rfl ?_)
    | ((with_reducible refine Step.gate_store (t := 3) rfl ?_); refine Step.store ST.out.one rfl rfl rfl rfl rfl pl_int rfl rfl ?_; intro w3 nb m; replace ST := Lib.hid (ST.out.set1 nb m); clear nb m)
    | ((with_reducible refine Step.gate_store (t := 4) rfl ?_); refine Step.store ST.out.one rfl rfl rfl rfl rfl pl_bool rfl rfl ?_; intro w3 nb m; replace ST := Lib.hid (ST.out.set1 nb m); clear nb m)
    | ((with_reducible refine Step.gate_store (t := 44) rfl ?_); refine Step.storeAll ST.out.one rfl rfl rfl rfl rfl size_inst rfl rfl ?_; intro w3 nb m; replace ST := Lib.hid (ST.out.set1 nb m); clear nb m)
    | ((with_reducible refine Step.gate_load (t := 3) rfl ?_); refine Step.load ST.out.one rfl rfl rfl pl_int rfl ?_)
    | ((with_reducible refine Step.gate_load (t := 4) rfl ?_); refine Step.load ST.out.one rfl rfl rfl pl_bool rfl ?_)
    | ((with_reducible refine Step.gate_load (t := 44) rfl ?_); refine Step.loadAll ST.out.one rfl rfl rfl Tryz.underlying44 rfl size_inst ?_)
    | ((with_reducible refine Step.gate_store (t := 3) rfl ?_); refine Step.store ST.out.two rfl rfl rfl rfl rfl pl_int rfl rfl ?_; intro w3 nb m; replace ST := Lib.hid (ST.out.set2 nb m); clear nb m)
    | ((with_reducible refine Step.gate_store (t := 4) rfl ?_); refine Step.store ST.out.two rfl rfl rfl rfl rfl pl_bool rfl rfl ?_; intro w3 nb m; replace ST := Lib.hid (ST.out.set2 nb m); clear nb m)
    | ((with_reducible refine Step.gate_store (t := 44) rfl ?_); refine Step.storeAll ST.out.two rfl rfl rfl rfl rfl size_inst rfl rfl ?_; intro w3 nb m; replace ST := Lib.hid (ST.out.set2 nb m); clear nb m)
    | ((with_reducible refine Step.gate_load (t := 3) rfl ?_); refine Step.load ST.out.two rfl rfl rfl pl_int rfl ?_)
    | ((with_reducible refine Step.gate_load (t := 4) rfl ?_); refine Step.load ST.out.two rfl rfl rfl pl_bool rfl ?_)
    | ((with_reducible refine Step.gate_load (t := 44) rfl ?_); refine Step.loadAll ST.out.two rfl rfl rfl Tryz.underlying44 rfl size_inst ?_)
    | ((with_reducible refine Step.gate_load (t := 44) rfl ?_); refine loadAllW ST.out.one rfl rfl rfl Tryz.underlying44 rfl size_inst ?_)
    | ((with_reducible refine Step.gate_load (t := 44) rfl ?_); refine loadAllW ST.out.two rfl rfl rfl Tryz.underlying44 rfl size_inst ?_))
  go_ret2
  exact ⟨rfl, ST.out.below⟩
theorem word_at (i : Ins) (hr : InR i) (w : World) : Calls Tryz.prog 44 #[.agg i.cells] w fun e w' => e = .returned (.int .u32 (wordP i)) ∧ Below w.heap.size w w' :=
  word_any i.k i.fn i.rd i.rs1 i.rs2 i.imm i.sz i.sg hr.2.2.2.2.1 hr.2.2.2.2.2 w
section
variable {W w : World} {h1 h2 n : Nat} {base : Int} {m1 m2 : Nat → Int} {F1 F2 : Nat → Prop} {L L' : Blks}
theorem _root_.Go.Proofs.YthkodjkkcgdmfaaGreat.Kn.Kn.sub {S : Nat → Prop} (k : Kn S W w L) (s : L'.Sublist L) : Kn S W w L' := ⟨k.mod, fun p h => k.blk p (s.subset h), fun p h => k.own p (s.subset h), k.nod.sublist s⟩
theorem DK.sub (d : DK W w h1 h2 base n m1 m2 F1 F2 L) (s : L'.Sublist L) : DK W w h1 h2 base n m1 m2 F1 F2 L' := ⟨d.one, d.two, d.apart, d.new, d.kn.sub s, fun k hk p hp => d.ap k hk p (s.subset hp)⟩
end
theorem DK.start {W V w : World} {h1 h2 n : Nat} {base : Int} {mem : Nat → Int} {F1 F2 : Nat → Prop} {L : Blks} (k : Kn Step.Nil W V L) (d : Duo V w h1 h2 base n mem F1 F2) : DK W w h1 h2 base n mem mem F1 F2 L :=
  DK.of (d.ahead k.below) (k.call d.out) fun j hj p hp e => by
    have := (k.blk p hp).lt
    have := d.new j hj
    omega
theorem results_t3 {P : Program} {fn : Func} {a p d : Tmp} {ty : TypeId} (h : fn.results = #[.tmp a, .cell p ty, .tmp d]) (tmps : Array Value) (w : World) (g : Nat) (t : TypeId) (cs : Array Value) (de : TypeDesc)
    (hp : tmps.getD p undef = .pointer (some ⟨g, 0, none⟩)) (hg : Blk w g cs t) (hu : P.underlying ty = some de) (hd : (match de with | .struct _ | .array _ _ => true | _ => false) = true) (hi : (P.info? ty).map (·.size) = some cs.size) :
    (results fn tmps).run P w = .ok (.tuple #[tmps.getD a undef, .agg cs, tmps.getD d undef]) w := by
  have h2 := run_loadVar_row (P := P) w g t ty cs (0, 0) de hg.out hu hd hi
  have e : (results fn tmps).run P w = ((asAddr (tmps.getD p undef)).run P w).andThen fun ad w₁ => ((loadVar ty ad).run P w₁).andThen fun v w₂ => .ok (.tuple #[tmps.getD a undef, v, tmps.getD d undef]) w₂ := by
    simp only [results, h]
    simp [Sem.run_bind, Result.andThen]
  rw [e, hp]
  simp only [asAddr, Sem.run_pure, Result.andThen_ok, h2]
theorem wrap32 {u : Int} (h : W32 u) : IntKind.u64.wrap u = u := IntWalk.u64_in _ (by have := h.out; omega)
theorem one_new : newB 2147483648 1 = true := by decide
set_option maxHeartbeats 8000000 in
theorem one_any (W : World) (i : Ins) (hr : InR i) (hw : W32 (wordP i)) (hd : dec (wordP i) = some i) (TD : Hid (∀ w, Calls Tryz.prog 45 #[.int .u32 (wordP i)] w fun e w' => e = .returned (told (dec (wordP i))) ∧ Below w.heap.size w w')) (A : Option Addr) (len cap : Nat) (f : Nat → Int × Int) (r : RdC W A len f (· < W.heap.size)) (hl : len ≤ 9223372036854775807) :
    Calls Tryz.prog 22 #[.agg i.cells, .slice A len cap] W fun e w' => ∃ gc gt h1 h2 F1 F2, e = .returned (.tuple #[.pointer (some ⟨gc, 0, none⟩), .agg #[.pointer (some ⟨h1, 0, none⟩), .pointer (some ⟨h2, 0, none⟩)], .bool true]) ∧ DK W w' h1 h2 2147483648 1 (wr (cm 1 f len) 0 4 (wordP i)) (wr (cm 1 f len) 0 4 (wordP i)) F1 F2 ((gc, ccg h1 (.pointer (some ⟨gt, 0, none⟩)) 0 0 0 0 (.map none), TC) :: (gt, #[.int .i64 1, .slice none 0 0], 115) :: []) := by
  have TM := Lib.hid (fun (X : World) (bl : Below W.heap.size W X) => Duo.memory_any X 2147483648 1 1 rfl (by decide) one_new A len cap f ((r.mod (Mod.of_below bl Step.Nil) (fun _ _ h => h) fun _ h => h).wide fun k hk => Nat.lt_of_lt_of_le hk bl.size) hl)
  have TE := Lib.hid (rEncode_at i (wordP i) hr hw hd TD (Lib.hid (word_at i hr)))
  have HW := Lib.hid hw
  have e32 := wrap32 hw
  clear r hl hr hd hw TD
  generalize wordP i = u at *
  obtain ⟨k, fn, rd, rs1, rs2, imm, sz, sg⟩ := i
  simp only [Ins.cells] at TE ⊢
  go_enter Tryz.func22, Tryz.ntmps22
  have ST := Lib.hid (Kn.nil (S := Step.Nil) (W := W))
  go_wp2_with (first
    | ((with_reducible refine Step.gate_box (t := 44) rfl ?_); refine Step.fresh (cs := #[.int .i64 k, .int .i64 fn, .int .i64 rd, .int .i64 rs1, .int .i64 rs2, .int .i64 imm, .int .i64 sz, .bool sg]) (T := 44) rfl ?hr ?_; (case hr => first | (go_simp; done) | (go_simp; rfl)); intro g2 w1 b hg hb; replace ST := Lib.hid (ST.out.made b hg hb); clear b hb; clear hg)
    | ((with_reducible refine Step.gate_alloc (t := 40) rfl ?_); refine Step.freshAlloc rfl rfl (Duo.alloc_agg Duo.zero_two) ?_; (first | (have this := ST.out.duo; intro g7 w2 b hg hb; clear this) | intro g5 w2 b hg hb); replace ST := Lib.hid (ST.out.made b hg hb); clear b hb hg)
    | (go_at_call 35; (with_reducible refine (TM.out _ ST.out.below).mono ?_); rintro e wm ⟨h1, h2, F1, F2, rfl, d⟩; replace ST := Lib.hid (DK.start ST.out d); clear d)
    | ((with_reducible refine Step.gate_store (t := 40) rfl ?_); refine Step.storeAll (vs := #[.pointer (some ⟨h1, 0, none⟩), .pointer (some ⟨h2, 0, none⟩)]) ST.out.kn.at0 rfl rfl rfl rfl rfl size_two rfl rfl ?_; intro w3 nb m; replace ST := Lib.hid (ST.out.set (ST.out.kn.set0 nb m) m ⟨_, List.mem_cons_self .., rfl⟩ rfl); clear nb m)
    | (go_at_call 36; (with_reducible refine (tlb_new1 _).mono ?_); rintro e w' ⟨gt, rfl, hg, b, hb⟩; replace ST := Lib.hid (ST.out.made b hg hb); clear hg b hb)
    | (go_at_call 27; (with_reducible refine (TE.out _).mono ?_); rintro e w' ⟨rfl, hb⟩; replace ST := Lib.hid (ST.out.call hb); clear hb)
    | ((with_reducible refine Step.gate_load (t := 44) rfl ?_); refine Step.loadAll ST.out.kn.at3 rfl rfl rfl Tryz.underlying44 rfl size_inst ?_)
    | ((with_reducible refine Step.gate_load (t := 40) rfl ?_); refine Step.loadAll ST.out.kn.at1 rfl rfl rfl Tryz.underlying40 rfl size_two ?_)
    | (go_at_call 28; (with_reducible refine (Duo.wboth4 ST.out.duo 2147483648 u (by decide) (by have := HW.out.out; omega) (by decide)).mono ?_); rintro e w9 ⟨rfl, F1', F2', hd, f1, f2, m⟩; replace ST := Lib.hid (ST.out.duoTurn hd f1 f2 m); clear hd f1 f2 m)
    | ((with_reducible refine Step.gate_load (t := 37) rfl ?_); refine Step.load ST.out.kn.at1 rfl rfl rfl pl_pm rfl ?_)
    | (go_at_call 37; (with_reducible refine (core_new _ _ _).mono ?_); rintro e w' ⟨gc, rfl, hg, b, hb⟩; replace ST := Lib.hid (ST.out.made b hg hb); clear hg b hb))
  obtain ⟨mw, hm⟩ : ∃ x, x = wr (cm 1 f len) ((2147483648 : Int) - 2147483648).toNat 4 u := ⟨_, rfl⟩
  have hm2 : mw = wr (cm 1 f len) 0 4 u := hm
  rw [← hm] at ST
  clear hm
  ((with_reducible refine Sq.regionJ (id := 8) (J := fun j X => DK W X h1 h2 2147483648 1 mw mw F1' F2' [(gc, ccg h1 (.pointer (some ⟨gt, 0, none⟩)) 0 0 0 0 (.map none), TC), (gt, #[.int .i64 1, .slice none 0 0], 115), (g7, #[.pointer (some ⟨h1, 0, none⟩), .pointer (some ⟨h2, 0, none⟩)], 40), (g5, (match j with | 0 => #[.pointer none, .pointer none] | _ => #[.pointer (some ⟨h1, 0, none⟩), .pointer (some ⟨h2, 0, none⟩)]), 40), (g2, #[.int .i64 k, .int .i64 fn, .int .i64 rd, .int .i64 rs1, .int .i64 rs2, .int .i64 imm, .int .i64 sz, .bool sg], 44)]) ?hm1 7 [5] [.keep 0 0, .keep 0 0, .keep 0 1, .keep 0 1, .keep 0 0, .eff 0, .keep 1 1] ?hi1 ?hp1 ?hf1 ?hs1); (case hm1 => rfl); (case hi1 => exact (show DK W _ h1 h2 2147483648 1 mw mw F1' F2' [(gc, ccg h1 (.pointer (some ⟨gt, 0, none⟩)) 0 0 0 0 (.map none), TC), (gt, #[.int .i64 1, .slice none 0 0], 115), (g7, #[.pointer (some ⟨h1, 0, none⟩), .pointer (some ⟨h2, 0, none⟩)], 40), (g5, #[.pointer none, .pointer none], 40), (g2, #[.int .i64 k, .int .i64 fn, .int .i64 rd, .int .i64 rs1, .int .i64 rs2, .int .i64 imm, .int .i64 sz, .bool sg], 44)] from ST.out.call (Below.drew (Below.refl _ _)))); (case hp1 => kernel_rfl); (case hf1 => kernel_rfl); intro ops K hops hK; clear hops; dsimp only [List.take]; (repeat (first | (refine Sq.seqJ_move rfl rfl ?_; simp only [Act.put, Act.eval, Array.getD_eq_getD_getElem?, List.getElem?_toArray, List.getElem?_cons_zero, List.getElem?_cons_succ, Option.getD_some, List.setIfInBounds_toArray, List.set_cons_zero, List.set_cons_succ]) | (refine Sq.seqJ_check rfl rfl rfl ?_; simp only [Act.put, Act.eval, Array.getD_eq_getD_getElem?, List.getElem?_toArray, List.getElem?_cons_zero, List.getElem?_cons_succ, Option.getD_some, List.setIfInBounds_toArray, List.set_cons_zero, List.set_cons_succ]) | (refine Sq.seqJ_row (t := 40) (cs := fun _ => #[.pointer (some ⟨h1, 0, none⟩), .pointer (some ⟨h2, 0, none⟩)]) (fun j _ _ X hX => (DK.kn hX).at2) (Sq.wanted_none rfl) rfl rfl (fun _ => Sq.row_all _) Tryz.underlying40 rfl size_two ?_; simp only [Act.put, Act.eval, Array.getD_eq_getD_getElem?, List.getElem?_toArray, List.getElem?_cons_zero, List.getElem?_cons_succ, Option.getD_some, List.setIfInBounds_toArray, List.set_cons_zero, List.set_cons_succ]) | (refine Sq.seqJ_storeRow (g := g5) (k := 0) (cs := #[.pointer none, .pointer none]) (vs := #[.pointer (some ⟨h1, 0, none⟩), .pointer (some ⟨h2, 0, none⟩)]) (fun X hX => (DK.kn hX).at3) rfl rfl rfl rfl rfl size_two rfl rfl (fun X X' hX nb m => ?_) ?_; · exact DK.set hX (Kn.set3 (DK.kn hX) (show Blk X' g5 #[.pointer (some ⟨h1, 0, none⟩), .pointer (some ⟨h2, 0, none⟩)] 40 from nb) m) m ⟨_, List.mem_of_getElem? (i := 3) rfl, rfl⟩ rfl) | (refine' Sq.seqJ_pure rfl (fun X => _) _; rotate_left; (first | (go_simp; done) | (go_simp; rfl)); simp only [Act.put, Act.eval, Array.getD_eq_getD_getElem?, List.getElem?_toArray, List.getElem?_cons_zero, List.getElem?_cons_succ, Option.getD_some, List.setIfInBounds_toArray, List.set_cons_zero, List.set_cons_succ]))); refine Sq.seqJ_nil ?_; refine hK.out _ fun w1 hk => ?_; clear hK; replace ST := Lib.hid (show DK W w1 h1 h2 2147483648 1 mw mw F1' F2' [(gc, ccg h1 (.pointer (some ⟨gt, 0, none⟩)) 0 0 0 0 (.map none), TC), (gt, #[.int .i64 1, .slice none 0 0], 115), (g7, #[.pointer (some ⟨h1, 0, none⟩), .pointer (some ⟨h2, 0, none⟩)], 40), (g5, #[.pointer (some ⟨h1, 0, none⟩), .pointer (some ⟨h2, 0, none⟩)], 40), (g2, #[.int .i64 k, .int .i64 fn, .int .i64 rd, .int .i64 rs1, .int .i64 rs2, .int .i64 imm, .int .i64 sz, .bool sg], 44)] from hk); clear hk; dsimp only [List.drop])
  go_wp2
  all_goals subst hm2
  all_goals exact bodyPost_ret (results_t3 rfl _ _ _ _ _ _ rfl ST.out.kn.at3 Tryz.underlying40 rfl size_two) rfl ⟨gc, gt, h1, h2, F1', F2', rfl, ST.out.sub (List.Sublist.cons_cons _ (List.Sublist.cons_cons _ (List.nil_sublist _)))⟩
end Go.Proofs.YthkodjkkcgdmfaaGreat.Hart
end
section
namespace Go.Proofs.YthkodjkkcgdmfaaGreat.Hart
open Go Go.RowKit Go.Proofs.YthkodjkkcgdmfaaGreat.Step Go.Proofs.YthkodjkkcgdmfaaGreat.Enc Go.Proofs.YthkodjkkcgdmfaaGreat.Kn
open Go.Proofs.YthkodjkkcgdmfaaGreat.Mem (Ram Grow hasB wholeB num wr Rd fl Arg lst)
open Go.Proofs.YthkodjkkcgdmfaaGreat.Duo (Duo RdC cm size_two)
set_option linter.unusedVariables false
set_option linter.unusedSimpArgs false
set_option maxRecDepth 100000
theorem aw_alu : aluV 1 0 5 = 5 := by unfold aluV; rw [if_pos rfl]; decide
theorem aw_x1 (gc : Nat) : (zeroX (awS gc)).h.x 1 = 5 := by
  show aluV 1 0 5 = 5
  exact aw_alu
theorem aw_pc (gc : Nat) : (zeroX (awS gc)).h.pc = 2147483652 := by
  show addW (ord (resetH 2147483648 0 0)).pc 4 = 2147483652
  decide +kernel
theorem aw_c1 (gc : Nat) : (hc (zeroX (awS gc)).h)[1]? = some (.int .u64 5) := by
  show some (Value.int .u64 ((zeroX (awS gc)).h.x 1)) = _
  rw [aw_x1]
theorem aw_c32 (gc : Nat) : (hc (zeroX (awS gc)).h)[32]? = some (.int .u64 2147483652) := by
  show some (Value.int .u64 (zeroX (awS gc)).h.pc) = _
  rw [aw_pc]
section
variable {W X w w' : World} {h1 h2 n g : Nat} {base : Int} {m1 m2 : Nat → Int} {F1 F2 : Nat → Prop} {L : Blks} {p0 p1 : Nat × Array Value × TypeId} {c : Array Value} {T : TypeId}
theorem DK.core2 {tv : Value} {vmid : Int} {km : Value} (d : DK W w h1 h2 base n m1 m2 F1 F2 (p0 :: p1 :: (g, ccg h1 tv 0 vmid 0 0 km, TC) :: L)) : Kor w g h1 tv vmid base n m1 F1 := d.drop.drop.core (done := 0) (st := 0)
theorem DK.gone (K0 : Below W.heap.size W X) (d : DK X w h1 h2 base n m1 m2 F1 F2 (p0 :: p1 :: (g, c, T) :: L)) (m : Mod (fun k => k = g ∨ F1 k) w w') : Kn Step.Nil W w' [] := by
  have hz := K0.size
  have ho : ¬ g < X.heap.size := fun h => d.drop.drop.kn.own (g, c, T) (List.mem_cons_self ..) h
  refine ⟨((Mod.of_below K0 Step.Nil).trans d.kn.mod).trans_new m fun i hi e => ?_, (fun _ h => nomatch h), (fun _ h => nomatch h), List.Pairwise.nil⟩
  rcases e with e | e
  · have e' : i = g := e
    exact absurd hi (by omega)
  · have := d.new i (.inl e)
    exact absurd hi (by omega)
end
set_option maxHeartbeats 8000000 in
theorem awake_any (W : World) : Calls Tryz.prog 15 #[] W fun e w' => e = .returned (.bool true) ∧ Below W.heap.size W w' := by
  go_enter Tryz.func15, Tryz.ntmps15
  have ST := Lib.hid (Kn.nil (S := Step.Nil) (W := W))
  go_wp2_with (first
    | ((with_reducible refine Step.gate_alloc (t := 25) rfl ?_); refine Step.freshAlloc rfl rfl (alloc_agg zero_hart) ?_; intro g7 w2 b hg hb; replace ST := Lib.hid (ST.out.made b hg hb); clear b hb; clear hg)
    | ((with_reducible refine Step.gate_alloc (t := 46) rfl ?_); refine Step.freshAlloc rfl rfl (alloc_agg zero_ev) ?_; intro g8 w2 b hg hb; replace ST := Lib.hid (ST.out.made b hg hb); clear b hb; clear hg)
    | ((with_reducible refine Step.gate_store (t := 25) rfl ?_); refine Step.storeAll ST.out.at1 rfl rfl rfl rfl rfl (size_hart _) rfl (hc_all _) ?_; intro w3 nb m; replace ST := Lib.hid (ST.out.set1 nb m); clear nb m)
    | ((with_reducible refine Step.gate_store (t := 46) rfl ?_); refine Step.storeAll (vs := #[.int .i64 0, .int .i64 0, .int .u64 0, .int .u64 0, .bool false, .bool false]) ST.out.at0 rfl rfl rfl rfl rfl size_ev rfl rfl ?_; intro w3 nb m; replace ST := Lib.hid (ST.out.set0 nb m); clear nb m)
    | ((with_reducible refine Step.gate_load (t := 46) rfl ?_); refine Step.loadAll ST.out.at0 rfl rfl rfl Tryz.underlying46 rfl size_ev ?_)
    | ((with_reducible refine Step.gate_load (t := 22) rfl ?_); refine Step.loadG ST.out.at1 rfl rfl rfl pl_u64 (aw_c1 gc) ?_)
    | ((with_reducible refine Step.gate_load (t := 22) rfl ?_); refine Step.loadG ST.out.at1 rfl rfl rfl pl_u64 (aw_c32 gc) ?_)
    | ((with_reducible refine Step.gate_build (t := 66) rfl ?_); refine Step.freshSlice (cs := #[.int .u8 147, .int .u8 0, .int .u8 80, .int .u8 0]) (T := 5) (n := 4) (m := 4) rfl ?hr ?_; (case hr => first | (go_simp; done) | (go_simp; rfl)); intro gs w1 b hg hb; replace ST := Lib.hid (ST.out.made b hg hb); clear b hg hb)
    | (go_at_call 20; (with_reducible refine (reset_any 2147483648 0 0 ⟨by decide, by decide⟩ _).mono ?_); rintro e w' ⟨rfl, hb⟩; replace ST := Lib.hid (ST.out.call hb); clear hb)
    | ((with_reducible refine gate_buildS (t := 69) rfl ?_); refine Step.value (v := .agg (zC 2147483648 (some ⟨gs, 0, none⟩) 4 4 (resetH 2147483648 0 0))) rfl (build_case rfl rfl rfl rfl _) ?_)
    | ((with_reducible refine Step.gate_alloc (t := 69) rfl ?_); refine Step.freshAlloc rfl rfl (alloc_agg zero_case) ?_; intro g1 w2 b hg hb; replace ST := Lib.hid (ST.out.made b hg hb); clear b hb; clear hg)
    | ((with_reducible refine Step.gate_store (t := 69) rfl ?_); refine Step.storeAll ST.out.at0 rfl rfl rfl rfl rfl (size_case _ _ _ _ _) rfl (case_all _ _ _ _ _) ?_; intro w3 nb m; replace ST := Lib.hid (ST.out.set0 nb m); clear nb m)
    | ((with_reducible refine Step.gate_load (t := 69) rfl ?_); refine Step.loadAll ST.out.at0 rfl rfl rfl Tryz.underlying69 rfl (size_case _ _ _ _ _) ?_)
    | (go_at_call 32; (with_reducible refine (both_aw ST.out.at1 _).mono ?_); rintro e w9 ⟨gc, gcr, gt, gtr, h1, h2, F1, F2, L, rfl, d⟩; have B1 := Lib.hid (d.kn.stood ST.out.at0 (fun h => h)); have D := Lib.hid d; have K0 := Lib.hid ST.out.below; clear d)
    | ((with_reducible refine Step.gate_alloc (t := 40) rfl ?_); refine Step.freshAlloc rfl rfl (Duo.alloc_agg Duo.zero_two) ?_; intro g5 w2 b hg hb; have N5 := Lib.hid (show g1 ≠ g5 from fun e => by have := B1.out.lt; omega); replace B1 := Lib.hid (B1.out.below hb); replace D := Lib.hid (D.out.made b hg hb); clear b hg hb)
    | ((with_reducible refine Step.gate_store (t := 40) rfl ?_); refine Step.storeAll D.out.kn.at0 rfl rfl rfl rfl rfl size_two rfl rfl ?_; intro w3 nb m; replace B1 := Lib.hid (B1.out.one m N5.out); replace D := Lib.hid (D.out.set (D.out.kn.set0 nb m) m ⟨_, List.mem_cons_self .., rfl⟩ rfl); clear nb m)
    | ((with_reducible refine Step.gate_load (t := 25) rfl ?_); refine Step.loadMid B1.out rfl rfl rfl (row_case _ _ _ _ _) Tryz.underlying25 rfl (size_hart _) ?_)
    | (go_at_call 23; (with_reducible refine (step_aw (gc := gc) D.out.core2).mono ?_); rintro e w10 ⟨rfl, F3, hk, m, hF⟩; replace ST := Lib.hid (D.out.gone K0.out m); clear hk m hF))
  go_ret
  exact ⟨rfl, ST.out.below⟩
end Go.Proofs.YthkodjkkcgdmfaaGreat.Hart
end
section
namespace Go.Proofs.YthkodjkkcgdmfaaGreat.Hart
open Go Go.RowKit Go.Proofs.YthkodjkkcgdmfaaGreat.Step Go.Proofs.YthkodjkkcgdmfaaGreat.Enc Go.Proofs.YthkodjkkcgdmfaaGreat.Kn
open Go.Proofs.YthkodjkkcgdmfaaGreat.Mem (Ram Grow hasB wholeB num wr)
set_option linter.unusedVariables false
set_option linter.unusedSimpArgs false
set_option maxRecDepth 100000
set_option maxHeartbeats 8000000 in
theorem run_sret {W : World} {gs gm n r : Nat} {s s2 : Stp} {tv : Value} {vmid base : Int} {mem mem2 : Nat → Int} {F G : Nat → Prop} {T : World → Prop} (h : Sy W gs s gm tv 0 vmid (.map (some r)) base n mem F G (KT r T)) (hs : s.was.satp / 1152921504606846976 = 0) (hs0 : U64 s.was.satp) (hsie : s.was.sie = 0) (hpc : 0 ≤ s.was.pc ∧ s.was.pc + 2 < 18446744073709551616) (h1 : hasB base n s.was.pc 2 = true) (h2 : hasB base n (s.was.pc + 2) 2 = true) (lo hi : Int) (elo : num mem (s.was.pc - base).toNat 2 = lo) (ehi : num mem (s.was.pc + 2 - base).toNat 2 = hi) (hlo : 0 ≤ lo ∧ lo < 65536) (hhi : 0 ≤ hi ∧ hi < 65536) (h4 : lo % 4 = 3) 
    (fn rd rs1 rs2 imm sz : Int) (sg : Bool) (hd : dec (hi * 65536 + lo) = some ⟨18, fn, rd, rs1, rs2, imm, sz, sg⟩) (TD : Hid (∀ w, Calls Tryz.prog 63 #[.int .u32 (hi * 65536 + lo)] w fun e w' => e = .returned (told (dec (hi * 65536 + lo))) ∧ Below w.heap.size w w')) (HK : ∀ (W' : World) (F' : Nat → Prop), Sy W' gs (decP s (hi * 65536 + lo) ⟨18, fn, rd, rs1, rs2, imm, sz, sg⟩) gm tv 0 vmid (.map (some r)) base n mem F' G (KT r T) → Calls Tryz.prog 104 #[.pointer (some ⟨gs, 0, none⟩)] W' fun e w' => e = .returned (.tuple #[]) ∧ Out W' w' gs s2 gm tv 0 vmid (.map (some r)) base n mem2 F' G (KT r T)) :
    Calls Tryz.prog 39 #[.pointer (some ⟨gs, 0, none⟩)] W fun e w' => e = .returned (.tuple #[]) ∧ Out W w' gs (zeroX s2) gm tv 0 vmid (.map (some r)) base n mem2 F G (KT r T) := by
  have TP := Lib.hid (fun (W' : World) (hb : Blk W' gs (sc s) TS) => pending_no hb hsie)
  have TF := Lib.hid (fun (W' : World) (ho : Out W W' gs s gm tv 0 vmid (.map (some r)) base n mem F G (KT r T)) => by
    obtain ⟨F1, y, m, c⟩ := ho
    exact (fetch_4 y hs hs0 hpc h1 h2 lo hi elo ehi hlo hhi h4).mono fun e w' q => (⟨q.1, Out.set ⟨F1, y, m, c⟩ q.2.1 q.2.2 rfl⟩ : _ ∧ Out W w' gs { s with bits := hi * 65536 + lo, long := 4 } gm tv 0 vmid (.map (some r)) base n mem F G (KT r T)))
  rw [hd] at TD
  simp only [told, Ins.cells] at TD
  have TK := Lib.hid (fun (W' : World) (ho : Out W W' gs (decP s (hi * 65536 + lo) ⟨18, fn, rd, rs1, rs2, imm, sz, sg⟩) gm tv 0 vmid (.map (some r)) base n mem F G (KT r T)) => by
    obtain ⟨F1, y, m, c⟩ := ho
    exact (HK W' F1 y).mono fun e w' q => (⟨q.1, Out.then m c q.2⟩ : _ ∧ Out W w' gs s2 gm tv 0 vmid (.map (some r)) base n mem2 F G (KT r T)))
  have e1 : IntKind.u64.wrap (s.was.pc + 4) = addW s.was.pc 4 := rfl
  have HO := Lib.hid h.out
  clear h hs hs0 hsie hpc h1 h2 elo ehi hlo hhi h4 hd HK
  go_enter Tryz.func39, Tryz.ntmps39
  go_wp2_with (first
    | (go_at_call 60; (with_reducible refine (TP.out _ HO.out.step).mono ?_); rintro e w' ⟨rfl, hb⟩; replace HO := Lib.hid (HO.out.below hb); clear hb)
    | (go_at_call 62; (with_reducible refine (TF.out _ HO.out).mono ?_); rintro e w' ⟨rfl, ho⟩; replace HO := Lib.hid ho; clear ho)
    | (go_at_call 63; (with_reducible refine (TD.out _).mono ?_); rintro e w' ⟨rfl, hb⟩; replace HO := Lib.hid (HO.out.below hb); clear hb)
    | ((with_reducible refine Step.gate_store (t := 44) rfl ?_); refine Step.storeMid HO.out.step rfl rfl rfl rfl rfl size_inst rfl rfl ?_; intro w3 nb m; rw [lays_i] at nb; replace HO := Lib.hid (HO.out.set (s' := _) nb m rfl); clear nb m)
    | ((with_reducible refine Sq.region (id := 9) (I := fun X => Out W X gs _ gm tv 0 vmid _ base n _ F _ _) ?hm21 11 HO.out.drew ?hp21 ?hs21); (case hm21 => rfl); (case hp21 => kernel_rfl); intro ops K hops hK; clear hops; dsimp only [List.take]; (repeat (first | (refine Sq.seq_move rfl rfl ?_; simp only [Act.put, Act.eval, Array.getD_eq_getD_getElem?, List.getElem?_toArray, List.getElem?_cons_zero, List.getElem?_cons_succ, Option.getD_some, List.setIfInBounds_toArray, List.set_cons_zero, List.set_cons_succ, e1]) | (refine Sq.seq_check rfl rfl rfl ?_; simp only [Act.put, Act.eval, Array.getD_eq_getD_getElem?, List.getElem?_toArray, List.getElem?_cons_zero, List.getElem?_cons_succ, Option.getD_some, List.setIfInBounds_toArray, List.set_cons_zero, List.set_cons_succ, e1]) | (refine Sq.seq_load (t := 22) (fun X hX => hX.step) (Sq.wanted_none rfl) rfl rfl pl_u64 (sv_ok _ (by decide)) ?_; simp only [Act.put, Act.eval, Array.getD_eq_getD_getElem?, List.getElem?_toArray, List.getElem?_cons_zero, List.getElem?_cons_succ, Option.getD_some, List.setIfInBounds_toArray, List.set_cons_zero, List.set_cons_succ, sv_dry, sv_now, sv_k, sv_fn, sv_rd, sv_rs1, sv_rs2, sv_imm, sv_sz, sv_sg, sv_long, sv_bits, sv_ek, sv_ea, sv_eva, sv_egpa, sv_ewalk, sv_ewrote, sv_was_pc, sv_was_user, sv_was_on, sv_was_spie, sv_was_spp, sv_was_sum, sv_was_mxr, sv_was_rsv, sv_was_stvec, sv_was_sscr, sv_was_sepc, sv_was_scause, sv_was_stval, sv_was_sie, sv_was_sip, sv_was_satp, sv_was_resv, sv_h_pc, sv_h_user, sv_h_on, sv_h_spie, sv_h_spp, sv_h_sum, sv_h_mxr, sv_h_rsv, sv_h_stvec, sv_h_sscr, sv_h_sepc, sv_h_scause, sv_h_stval, sv_h_sie, sv_h_sip, sv_h_satp, sv_h_resv, sv_c, e1]) | (refine Sq.seq_load (t := 3) (fun X hX => hX.step) (Sq.wanted_none rfl) rfl rfl pl_int (sv_ok _ (by decide)) ?_; simp only [Act.put, Act.eval, Array.getD_eq_getD_getElem?, List.getElem?_toArray, List.getElem?_cons_zero, List.getElem?_cons_succ, Option.getD_some, List.setIfInBounds_toArray, List.set_cons_zero, List.set_cons_succ, sv_dry, sv_now, sv_k, sv_fn, sv_rd, sv_rs1, sv_rs2, sv_imm, sv_sz, sv_sg, sv_long, sv_bits, sv_ek, sv_ea, sv_eva, sv_egpa, sv_ewalk, sv_ewrote, sv_was_pc, sv_was_user, sv_was_on, sv_was_spie, sv_was_spp, sv_was_sum, sv_was_mxr, sv_was_rsv, sv_was_stvec, sv_was_sscr, sv_was_sepc, sv_was_scause, sv_was_stval, sv_was_sie, sv_was_sip, sv_was_satp, sv_was_resv, sv_h_pc, sv_h_user, sv_h_on, sv_h_spie, sv_h_spp, sv_h_sum, sv_h_mxr, sv_h_rsv, sv_h_stvec, sv_h_sscr, sv_h_sepc, sv_h_scause, sv_h_stval, sv_h_sie, sv_h_sip, sv_h_satp, sv_h_resv, sv_c, e1]) | (refine Sq.seq_load (t := 4) (fun X hX => hX.step) (Sq.wanted_none rfl) rfl rfl pl_bool (sv_ok _ (by decide)) ?_; simp only [Act.put, Act.eval, Array.getD_eq_getD_getElem?, List.getElem?_toArray, List.getElem?_cons_zero, List.getElem?_cons_succ, Option.getD_some, List.setIfInBounds_toArray, List.set_cons_zero, List.set_cons_succ, sv_dry, sv_now, sv_k, sv_fn, sv_rd, sv_rs1, sv_rs2, sv_imm, sv_sz, sv_sg, sv_long, sv_bits, sv_ek, sv_ea, sv_eva, sv_egpa, sv_ewalk, sv_ewrote, sv_was_pc, sv_was_user, sv_was_on, sv_was_spie, sv_was_spp, sv_was_sum, sv_was_mxr, sv_was_rsv, sv_was_stvec, sv_was_sscr, sv_was_sepc, sv_was_scause, sv_was_stval, sv_was_sie, sv_was_sip, sv_was_satp, sv_was_resv, sv_h_pc, sv_h_user, sv_h_on, sv_h_spie, sv_h_spp, sv_h_sum, sv_h_mxr, sv_h_rsv, sv_h_stvec, sv_h_sscr, sv_h_sepc, sv_h_scause, sv_h_stval, sv_h_sie, sv_h_sip, sv_h_satp, sv_h_resv, sv_c, e1]) | (refine Sq.seq_load (t := 36) (fun X hX => hX.step) (Sq.wanted_none rfl) rfl rfl pl_pc (sv_ok _ (by decide)) ?_; simp only [Act.put, Act.eval, Array.getD_eq_getD_getElem?, List.getElem?_toArray, List.getElem?_cons_zero, List.getElem?_cons_succ, Option.getD_some, List.setIfInBounds_toArray, List.set_cons_zero, List.set_cons_succ, sv_c]) | (refine Sq.seq_load (t := 127) (fun X hX => hX.core) (Sq.wanted_none rfl) rfl rfl pl_km cc_kinds ?_; simp only [Act.put, Act.eval, Array.getD_eq_getD_getElem?, List.getElem?_toArray, List.getElem?_cons_zero, List.getElem?_cons_succ, Option.getD_some, List.setIfInBounds_toArray, List.set_cons_zero, List.set_cons_succ]) | (refine' Sq.seq_pure rfl (fun X => _) _; rotate_left; (first | (go_simp; done) | (go_simp; rfl)); simp only [Act.put, Act.eval, Array.getD_eq_getD_getElem?, List.getElem?_toArray, List.getElem?_cons_zero, List.getElem?_cons_succ, Option.getD_some, List.setIfInBounds_toArray, List.set_cons_zero, List.set_cons_succ, e1]))); refine Sq.seq_nil ?_; refine hK.out _ fun w1 hk => ?_; clear hK; replace HO := Lib.hid hk; clear hk; dsimp only [List.drop])
    | ((with_reducible refine Sq.region (id := 10) (I := fun X => Out W X gs _ gm tv 0 vmid _ base n _ F _ _) ?hm22 14 HO.out.drew ?hp22 ?hs22); (case hm22 => rfl); (case hp22 => kernel_rfl); intro ops K hops hK; clear hops; dsimp only [List.take]; (repeat (first | (refine Sq.seq_move rfl rfl ?_; simp only [Act.put, Act.eval, Array.getD_eq_getD_getElem?, List.getElem?_toArray, List.getElem?_cons_zero, List.getElem?_cons_succ, Option.getD_some, List.setIfInBounds_toArray, List.set_cons_zero, List.set_cons_succ]) | (refine Sq.seq_check rfl rfl rfl ?_; simp only [Act.put, Act.eval, Array.getD_eq_getD_getElem?, List.getElem?_toArray, List.getElem?_cons_zero, List.getElem?_cons_succ, Option.getD_some, List.setIfInBounds_toArray, List.set_cons_zero, List.set_cons_succ]) | (refine Sq.seq_load (t := 22) (fun X hX => hX.step) (Sq.wanted_none rfl) rfl rfl pl_u64 (sv_ok _ (by decide)) ?_; simp only [Act.put, Act.eval, Array.getD_eq_getD_getElem?, List.getElem?_toArray, List.getElem?_cons_zero, List.getElem?_cons_succ, Option.getD_some, List.setIfInBounds_toArray, List.set_cons_zero, List.set_cons_succ, sv_dry, sv_now, sv_k, sv_fn, sv_rd, sv_rs1, sv_rs2, sv_imm, sv_sz, sv_sg, sv_long, sv_bits, sv_ek, sv_ea, sv_eva, sv_egpa, sv_ewalk, sv_ewrote, sv_was_pc, sv_was_user, sv_was_on, sv_was_spie, sv_was_spp, sv_was_sum, sv_was_mxr, sv_was_rsv, sv_was_stvec, sv_was_sscr, sv_was_sepc, sv_was_scause, sv_was_stval, sv_was_sie, sv_was_sip, sv_was_satp, sv_was_resv, sv_h_pc, sv_h_user, sv_h_on, sv_h_spie, sv_h_spp, sv_h_sum, sv_h_mxr, sv_h_rsv, sv_h_stvec, sv_h_sscr, sv_h_sepc, sv_h_scause, sv_h_stval, sv_h_sie, sv_h_sip, sv_h_satp, sv_h_resv, sv_c]) | (refine Sq.seq_load (t := 3) (fun X hX => hX.step) (Sq.wanted_none rfl) rfl rfl pl_int (sv_ok _ (by decide)) ?_; simp only [Act.put, Act.eval, Array.getD_eq_getD_getElem?, List.getElem?_toArray, List.getElem?_cons_zero, List.getElem?_cons_succ, Option.getD_some, List.setIfInBounds_toArray, List.set_cons_zero, List.set_cons_succ, sv_dry, sv_now, sv_k, sv_fn, sv_rd, sv_rs1, sv_rs2, sv_imm, sv_sz, sv_sg, sv_long, sv_bits, sv_ek, sv_ea, sv_eva, sv_egpa, sv_ewalk, sv_ewrote, sv_was_pc, sv_was_user, sv_was_on, sv_was_spie, sv_was_spp, sv_was_sum, sv_was_mxr, sv_was_rsv, sv_was_stvec, sv_was_sscr, sv_was_sepc, sv_was_scause, sv_was_stval, sv_was_sie, sv_was_sip, sv_was_satp, sv_was_resv, sv_h_pc, sv_h_user, sv_h_on, sv_h_spie, sv_h_spp, sv_h_sum, sv_h_mxr, sv_h_rsv, sv_h_stvec, sv_h_sscr, sv_h_sepc, sv_h_scause, sv_h_stval, sv_h_sie, sv_h_sip, sv_h_satp, sv_h_resv, sv_c]) | (refine Sq.seq_load (t := 4) (fun X hX => hX.step) (Sq.wanted_none rfl) rfl rfl pl_bool (sv_ok _ (by decide)) ?_; simp only [Act.put, Act.eval, Array.getD_eq_getD_getElem?, List.getElem?_toArray, List.getElem?_cons_zero, List.getElem?_cons_succ, Option.getD_some, List.setIfInBounds_toArray, List.set_cons_zero, List.set_cons_succ, sv_dry, sv_now, sv_k, sv_fn, sv_rd, sv_rs1, sv_rs2, sv_imm, sv_sz, sv_sg, sv_long, sv_bits, sv_ek, sv_ea, sv_eva, sv_egpa, sv_ewalk, sv_ewrote, sv_was_pc, sv_was_user, sv_was_on, sv_was_spie, sv_was_spp, sv_was_sum, sv_was_mxr, sv_was_rsv, sv_was_stvec, sv_was_sscr, sv_was_sepc, sv_was_scause, sv_was_stval, sv_was_sie, sv_was_sip, sv_was_satp, sv_was_resv, sv_h_pc, sv_h_user, sv_h_on, sv_h_spie, sv_h_spp, sv_h_sum, sv_h_mxr, sv_h_rsv, sv_h_stvec, sv_h_sscr, sv_h_sepc, sv_h_scause, sv_h_stval, sv_h_sie, sv_h_sip, sv_h_satp, sv_h_resv, sv_c]) | (refine Sq.seq_load (t := 36) (fun X hX => hX.step) (Sq.wanted_none rfl) rfl rfl pl_pc (sv_ok _ (by decide)) ?_; simp only [Act.put, Act.eval, Array.getD_eq_getD_getElem?, List.getElem?_toArray, List.getElem?_cons_zero, List.getElem?_cons_succ, Option.getD_some, List.setIfInBounds_toArray, List.set_cons_zero, List.set_cons_succ, sv_c]) | (refine Sq.seq_load (t := 127) (fun X hX => hX.core) (Sq.wanted_none rfl) rfl rfl pl_km cc_kinds ?_; simp only [Act.put, Act.eval, Array.getD_eq_getD_getElem?, List.getElem?_toArray, List.getElem?_cons_zero, List.getElem?_cons_succ, Option.getD_some, List.setIfInBounds_toArray, List.set_cons_zero, List.set_cons_succ]) | (refine seq_look (fun X hX => hX.tlb.1) rfl rfl rfl rfl Tryz.underlying127 Tryz.underlying3 (v := .func (.func 104) #[] #[]) (i := 17) rfl ?_; simp only [Act.put, Act.eval, Array.getD_eq_getD_getElem?, List.getElem?_toArray, List.getElem?_cons_zero, List.getElem?_cons_succ, Option.getD_some, List.setIfInBounds_toArray, List.set_cons_zero, List.set_cons_succ]) | (refine' Sq.seq_pure rfl (fun X => _) _; rotate_left; (first | (go_simp; done) | (go_simp; rfl)); simp only [Act.put, Act.eval, Array.getD_eq_getD_getElem?, List.getElem?_toArray, List.getElem?_cons_zero, List.getElem?_cons_succ, Option.getD_some, List.setIfInBounds_toArray, List.set_cons_zero, List.set_cons_succ]))); refine Sq.seq_nil ?_; refine hK.out _ fun w1 hk => ?_; clear hK; replace HO := Lib.hid hk; clear hk; dsimp only [List.drop])
    | (go_at_call 104; (with_reducible refine (TK.out _ HO.out).mono ?_); rintro e w' ⟨rfl, ho⟩; replace HO := Lib.hid ho; clear ho)
    | ((with_reducible refine Step.gate_store (t := 22) rfl ?_); refine Step.store HO.out.step rfl rfl rfl rfl rfl pl_u64 rfl rfl ?_; intro w3 nb m; simp [go_sem, sst_dry, sst_now, sst_k, sst_fn, sst_rd, sst_rs1, sst_rs2, sst_imm, sst_sz, sst_sg, sst_long, sst_bits, sst_ek, sst_ea, sst_eva, sst_egpa, sst_ewalk, sst_ewrote, sst_h_pc, sst_h_user, sst_h_on, sst_h_spie, sst_h_spp, sst_h_sum, sst_h_mxr, sst_h_rsv, sst_h_stvec, sst_h_sscr, sst_h_sepc, sst_h_scause, sst_h_stval, sst_h_sie, sst_h_sip, sst_h_satp, sst_h_resv, sst_h_x0] at nb; replace HO := Lib.hid (HO.out.set (s' := _) nb m rfl); clear nb m)
    | ((with_reducible refine Step.gate_store (t := 3) rfl ?_); refine Step.store HO.out.step rfl rfl rfl rfl rfl pl_int rfl rfl ?_; intro w3 nb m; simp [go_sem, sst_dry, sst_now, sst_k, sst_fn, sst_rd, sst_rs1, sst_rs2, sst_imm, sst_sz, sst_sg, sst_long, sst_bits, sst_ek, sst_ea, sst_eva, sst_egpa, sst_ewalk, sst_ewrote, sst_h_pc, sst_h_user, sst_h_on, sst_h_spie, sst_h_spp, sst_h_sum, sst_h_mxr, sst_h_rsv, sst_h_stvec, sst_h_sscr, sst_h_sepc, sst_h_scause, sst_h_stval, sst_h_sie, sst_h_sip, sst_h_satp, sst_h_resv, sst_h_x0] at nb; replace HO := Lib.hid (HO.out.set (s' := _) nb m rfl); clear nb m)
    | ((with_reducible refine Step.gate_store (t := 4) rfl ?_); refine Step.store HO.out.step rfl rfl rfl rfl rfl pl_bool rfl rfl ?_; intro w3 nb m; simp [go_sem, sst_dry, sst_now, sst_k, sst_fn, sst_rd, sst_rs1, sst_rs2, sst_imm, sst_sz, sst_sg, sst_long, sst_bits, sst_ek, sst_ea, sst_eva, sst_egpa, sst_ewalk, sst_ewrote, sst_h_pc, sst_h_user, sst_h_on, sst_h_spie, sst_h_spp, sst_h_sum, sst_h_mxr, sst_h_rsv, sst_h_stvec, sst_h_sscr, sst_h_sepc, sst_h_scause, sst_h_stval, sst_h_sie, sst_h_sip, sst_h_satp, sst_h_resv, sst_h_x0] at nb; replace HO := Lib.hid (HO.out.set (s' := _) nb m rfl); clear nb m)
    | ((with_reducible refine Step.gate_load (t := 22) rfl ?_); refine Step.load HO.out.step rfl rfl rfl pl_u64 (sv_ok _ (by decide)) ?_; simp only [sv_dry, sv_now, sv_k, sv_fn, sv_rd, sv_rs1, sv_rs2, sv_imm, sv_sz, sv_sg, sv_long, sv_bits, sv_ek, sv_ea, sv_eva, sv_egpa, sv_ewalk, sv_ewrote, sv_was_pc, sv_was_user, sv_was_on, sv_was_spie, sv_was_spp, sv_was_sum, sv_was_mxr, sv_was_rsv, sv_was_stvec, sv_was_sscr, sv_was_sepc, sv_was_scause, sv_was_stval, sv_was_sie, sv_was_sip, sv_was_satp, sv_was_resv, sv_h_pc, sv_h_user, sv_h_on, sv_h_spie, sv_h_spp, sv_h_sum, sv_h_mxr, sv_h_rsv, sv_h_stvec, sv_h_sscr, sv_h_sepc, sv_h_scause, sv_h_stval, sv_h_sie, sv_h_sip, sv_h_satp, sv_h_resv, sv_c, e1])
    | ((with_reducible refine Step.gate_load (t := 3) rfl ?_); refine Step.load HO.out.step rfl rfl rfl pl_int (sv_ok _ (by decide)) ?_; simp only [sv_dry, sv_now, sv_k, sv_fn, sv_rd, sv_rs1, sv_rs2, sv_imm, sv_sz, sv_sg, sv_long, sv_bits, sv_ek, sv_ea, sv_eva, sv_egpa, sv_ewalk, sv_ewrote, sv_was_pc, sv_was_user, sv_was_on, sv_was_spie, sv_was_spp, sv_was_sum, sv_was_mxr, sv_was_rsv, sv_was_stvec, sv_was_sscr, sv_was_sepc, sv_was_scause, sv_was_stval, sv_was_sie, sv_was_sip, sv_was_satp, sv_was_resv, sv_h_pc, sv_h_user, sv_h_on, sv_h_spie, sv_h_spp, sv_h_sum, sv_h_mxr, sv_h_rsv, sv_h_stvec, sv_h_sscr, sv_h_sepc, sv_h_scause, sv_h_stval, sv_h_sie, sv_h_sip, sv_h_satp, sv_h_resv, sv_c, e1])
    | ((with_reducible refine Step.gate_load (t := 4) rfl ?_); refine Step.load HO.out.step rfl rfl rfl pl_bool (sv_ok _ (by decide)) ?_; simp only [sv_dry, sv_now, sv_k, sv_fn, sv_rd, sv_rs1, sv_rs2, sv_imm, sv_sz, sv_sg, sv_long, sv_bits, sv_ek, sv_ea, sv_eva, sv_egpa, sv_ewalk, sv_ewrote, sv_was_pc, sv_was_user, sv_was_on, sv_was_spie, sv_was_spp, sv_was_sum, sv_was_mxr, sv_was_rsv, sv_was_stvec, sv_was_sscr, sv_was_sepc, sv_was_scause, sv_was_stval, sv_was_sie, sv_was_sip, sv_was_satp, sv_was_resv, sv_h_pc, sv_h_user, sv_h_on, sv_h_spie, sv_h_spp, sv_h_sum, sv_h_mxr, sv_h_rsv, sv_h_stvec, sv_h_sscr, sv_h_sepc, sv_h_scause, sv_h_stval, sv_h_sie, sv_h_sip, sv_h_satp, sv_h_resv, sv_c, e1]))
  all_goals (first | go_ret | go_end0 | refine bodyPost_ret (results_none rfl _ _ _) rfl ?_)
  exact ⟨rfl, HO.out⟩
end Go.Proofs.YthkodjkkcgdmfaaGreat.Hart
end
section
namespace Go.Proofs.YthkodjkkcgdmfaaGreat.Hart
open Go Go.RowKit Go.Proofs.YthkodjkkcgdmfaaGreat.Step Go.Proofs.YthkodjkkcgdmfaaGreat.Enc Go.Proofs.YthkodjkkcgdmfaaGreat.Kn
open Go.Proofs.YthkodjkkcgdmfaaGreat.Mem (Ram Grow hasB newB wholeB num wr Rd fl Arg lst)
open Go.Proofs.YthkodjkkcgdmfaaGreat.Duo (Duo RdC cm size_two)
set_option linter.unusedVariables false
set_option linter.unusedSimpArgs false
set_option maxRecDepth 100000
section
variable {W X w w' : World} {h1 h2 n g : Nat} {base : Int} {m1 m2 m1' : Nat → Int} {F1 F2 F1' : Nat → Prop} {L L' L0 : Blks} {c : Array Value} {T : TypeId} {tv : Value} {vmid : Int}
/-- Two memories and blocks made beside blocks that were known. -/
theorem DK.join (k : Kn Step.Nil W X L0) (d : DK X w h1 h2 base n m1 m2 F1 F2 L) : DK W w h1 h2 base n m1 m2 F1 F2 (L ++ L0) := by
  have hz := k.mod.size
  have k2 := k.call d.below
  refine ⟨d.one, d.two, d.apart, fun j hj => Nat.le_trans hz (d.new j hj), ⟨k2.mod, fun p hp => ?_, fun p hp hl => ?_, List.pairwise_append.2 ⟨d.kn.nod, k.nod, fun a ha b hb e => ?_⟩⟩, fun j hj p hp e => ?_⟩
  · rcases List.mem_append.1 hp with h | h
    · exact d.kn.blk p h
    · exact k2.blk p h
  · rcases List.mem_append.1 hp with h | h
    · exact (d.kn.own p h (by omega)).elim
    · exact k.own p h hl
  · have h1 := (k.blk b hb).lt
    rw [← e] at h1
    exact (d.kn.own a ha h1).elim
  · rcases List.mem_append.1 hp with h | h
    · exact d.ap j hj p h e
    · have := (k.blk p h).lt
      have := d.new j hj
      omega
/-- A step of the core turned its memory. -/
theorem DK.step (d : DK W w h1 h2 base n m1 m2 F1 F2 ((g, c, T) :: L)) (hk : Kor w' g h1 tv vmid base n m1' F1') (m : Mod (fun k => k = g ∨ F1 k) w w') (hF : ∀ k, F1' k → F1 k ∨ w.heap.size ≤ k) : DK W w' h1 h2 base n m1' m2 F1' F2 L := by
  have hg := fun k hk => (d.ap k (.inr hk) (g, c, T) (List.mem_cons_self ..))
  have hnod := List.pairwise_cons.1 d.kn.nod
  have hW := d.kn.mod.size
  refine ⟨hk.ram, d.two.mod m fun k h2 h => ?_, fun k h1 h2 => ?_, fun k h => ?_, d.kn.drop.turn m (fun p hp h => ?_) (fun i hi h => ?_), fun k h p hp e => ?_⟩
  · rcases h with h | h
    · exact hg k h2 h.symm
    · exact d.apart k h h2
  · rcases hF k h1 with h | h
    · exact d.apart k h h2
    · have := d.two.bound k h2; omega
  · rcases h with h | h
    · rcases hF k h with h | h
      · exact d.new k (.inl h)
      · omega
    · exact d.new k (.inr h)
  · rcases h with h | h
    · exact hnod.1 p hp (h : p.1 = g).symm
    · exact d.ap p.1 (.inl h) p (List.mem_cons_of_mem _ hp) rfl
  · rcases h with h | h
    · have h' : i = g := h
      subst h'
      exact (d.kn.own (i, c, T) (List.mem_cons_self ..) hi).elim
    · have := d.new i (.inl h); omega
  · have hb := (d.kn.blk p (List.mem_cons_of_mem _ hp)).lt
    rcases h with h | h
    · rcases hF k h with h | h
      · exact d.ap k (.inl h) p (List.mem_cons_of_mem _ hp) e
      · omega
    · exact d.ap k (.inr h) p (List.mem_cons_of_mem _ hp) e
end
theorem fd_op (a : Int) : fd a 6 0 = a % 128 := by
  show a / ((1 : Nat) : Int) % ((128 : Nat) : Int) = a % 128
  omega
theorem dec_low {u : Int} {i : Ins} (h : dec u = some i) : u % 4 = 3 := by
  unfold dec decOp at h
  rw [fd_op] at h
  by_cases c : u % 4 = 3
  · exact c
  · exfalso
    have q : ∀ k : Int, k % 4 = 3 → ¬ u % 128 = k := fun k hk e => c (by omega)
    rw [if_neg (q 55 rfl), if_neg (q 23 rfl), if_neg (q 111 rfl), if_neg (q 103 rfl), if_neg (q 99 rfl), if_neg (q 3 rfl), if_neg (q 35 rfl), if_neg (q 19 rfl), if_neg (q 27 rfl), if_neg (q 51 rfl), if_neg (q 59 rfl), if_neg (q 15 rfl), if_neg (q 115 rfl), if_neg (q 47 rfl)] at h
    cases h
theorem word_lo (m : Nat → Int) (u : Int) (hu : W32 u) : num (wr m 0 4 u) 0 2 = u % 65536 ∧ num (wr m 0 4 u) 2 2 = u / 65536 := by
  have hh := hu.out
  constructor
  · show wr m 0 4 u 0 + 256 * (wr m 0 4 u 1 + 256 * 0) = _
    show u / 256 ^ 0 % 256 + 256 * (u / 256 ^ 1 % 256 + 256 * 0) = _
    omega
  · show wr m 0 4 u 2 + 256 * (wr m 0 4 u 3 + 256 * 0) = _
    show u / 256 ^ 2 % 256 + 256 * (u / 256 ^ 3 % 256 + 256 * 0) = _
    omega
theorem ord_pc0 {h : Hrt} (hpc : h.pc = 2147483648) : (ord h).pc = 2147483648 := by show h.pc / 2 * 2 = _; rw [hpc]; rfl
theorem ord_sie0 {h : Hrt} (hs : h.sie = 0) : (ord h).sie = 0 := by show msk h.sie = _; rw [hs]; kernel_rfl
/-- A step of the word at the beginning, whose kind is 18. -/
theorem step_sret {W : World} {gc gm : Nat} {tv : Value} {m0 mem2 : Nat → Int} {F : Nat → Prop} {s2 : Stp} {u : Int} (hk : Kor W gc gm tv 0 2147483648 1 (wr m0 0 4 u) F) (h : Hrt) (hf : Fit h) (now : Int) (hpc : h.pc = 2147483648) (hsie : h.sie = 0) (hsat : h.satp = 0) (hu : W32 u) {fn rd rs1 rs2 imm sz : Int} {sg : Bool} (hd : dec u = some ⟨18, fn, rd, rs1, rs2, imm, sz, sg⟩) (TD : Hid (∀ w, Calls Tryz.prog 63 #[.int .u32 u] w fun e w' => e = .returned (told (dec u)) ∧ Below w.heap.size w w')) (hg2 : s2.gc = gc)
    (HK : ∀ (W' : World) (gs r : Nat) (F' : Nat → Prop), Sy W' gs (decP (newS gc now (ord h)) u ⟨18, fn, rd, rs1, rs2, imm, sz, sg⟩) gm tv 0 0 (.map (some r)) 2147483648 1 (wr m0 0 4 u) F' (fun k => k = r) (KT r fun _ => True) → Calls Tryz.prog 104 #[.pointer (some ⟨gs, 0, none⟩)] W' fun e w' => e = .returned (.tuple #[]) ∧ Out W' w' gs s2 gm tv 0 0 (.map (some r)) 2147483648 1 mem2 F' (fun k => k = r) (KT r fun _ => True)) :
    Calls Tryz.prog 23 #[.pointer (some ⟨gc, 0, none⟩), .agg (hc h), .int .u64 now] W fun e w' => e = .returned (.tuple #[.agg (hc (zeroX s2).h), .agg (ecells (zeroX s2))]) ∧ ∃ F', Kor w' gc gm tv 0 2147483648 1 mem2 F' ∧ Mod (fun k => k = gc ∨ F k) W w' ∧ ∀ k, F' k → F k ∨ W.heap.size ≤ k := by
  have hh := hu.out
  have e4 : u / 65536 * 65536 + u % 65536 = u := by omega
  have hl := word_lo m0 u hu
  have p0 := ord_pc0 hpc
  refine step_any (s2 := zeroX s2) hk h hf now hg2 fun W' gs r y => ?_
  have hsat2 : (ord h).satp = 0 := hsat
  refine run_sret y (show (ord h).satp / 1152921504606846976 = 0 by rw [hsat2]; rfl) (show U64 (ord h).satp by rw [hsat2]; exact ⟨by decide, by decide⟩) (ord_sie0 hsie) (show 0 ≤ (ord h).pc ∧ (ord h).pc + 2 < 18446744073709551616 by rw [p0]; decide) (show hasB 2147483648 1 (ord h).pc 2 = true by rw [p0]; decide) (show hasB 2147483648 1 ((ord h).pc + 2) 2 = true by rw [p0]; decide) (u % 65536) (u / 65536) (by rw [show (newS gc now (ord h)).was.pc = 2147483648 from p0]; exact hl.1) (by rw [show (newS gc now (ord h)).was.pc = 2147483648 from p0]; exact hl.2) (by omega) (by omega) (by have := dec_low hd; omega) fn rd rs1 rs2 imm sz sg (by rw [e4]; exact hd) (by rw [e4]; exact TD) ?_
  rw [e4]
  exact fun W'' F' y2 => HK W'' gs r F' y2
end Go.Proofs.YthkodjkkcgdmfaaGreat.Hart
end
section
namespace Go.Proofs.YthkodjkkcgdmfaaGreat.Hart
open Go Go.RowKit Go.Proofs.YthkodjkkcgdmfaaGreat.Step Go.Proofs.YthkodjkkcgdmfaaGreat.Enc Go.Proofs.YthkodjkkcgdmfaaGreat.Kn
open Go.Proofs.YthkodjkkcgdmfaaGreat.Mem (Ram Grow hasB newB wholeB num wr Rd fl Arg lst)
open Go.Proofs.YthkodjkkcgdmfaaGreat.Duo (Duo RdC cm size_two)
set_option linter.unusedVariables false
set_option linter.unusedSimpArgs false
set_option maxRecDepth 100000
section
variable {W w w' : World} {h1 h2 n g : Nat} {base : Int} {m1 m2 m1' : Nat → Int} {F1 F2 F1' : Nat → Prop} {L : Blks} {c : Array Value} {T : TypeId} {tv km : Value} {vmid : Int} {p q : Nat × Array Value × TypeId}
theorem DK.swap (d : DK W w h1 h2 base n m1 m2 F1 F2 (p :: q :: L)) : DK W w h1 h2 base n m1 m2 F1 F2 (q :: p :: L) := by
  have hm : ∀ r, r ∈ q :: p :: L → r ∈ p :: q :: L := fun r h => by
    rcases List.mem_cons.1 h with h | h
    · exact List.mem_cons_of_mem _ (h ▸ List.mem_cons_self ..)
    · rcases List.mem_cons.1 h with h | h
      · exact h ▸ List.mem_cons_self ..
      · exact List.mem_cons_of_mem _ (List.mem_cons_of_mem _ h)
  have h1 := List.pairwise_cons.1 d.kn.nod
  have h2 := List.pairwise_cons.1 h1.2
  refine ⟨d.one, d.two, d.apart, d.new, ⟨d.kn.mod, fun r h => d.kn.blk r (hm r h), fun r h => d.kn.own r (hm r h), List.pairwise_cons.2 ⟨fun r hr => ?_, List.pairwise_cons.2 ⟨fun r hr => h1.1 r (List.mem_cons_of_mem _ hr), h2.2⟩⟩⟩, fun k hk r h => d.ap k hk r (hm r h)⟩
  rcases List.mem_cons.1 hr with rfl | hr
  · exact (h1.1 q (List.mem_cons_self ..)).symm
  · exact h2.1 r hr
theorem DK.core1 (d : DK W w h1 h2 base n m1 m2 F1 F2 (p :: (g, ccg h1 tv 0 vmid 0 0 km, TC) :: L)) : Kor w g h1 tv vmid base n m1 F1 := d.drop.core (done := 0) (st := 0)
theorem DK.step1 (d : DK W w h1 h2 base n m1 m2 F1 F2 (p :: (g, c, T) :: L)) (hk : Kor w' g h1 tv vmid base n m1' F1') (m : Mod (fun k => k = g ∨ F1 k) w w') (hF : ∀ k, F1' k → F1 k ∨ w.heap.size ≤ k) : DK W w' h1 h2 base n m1' m2 F1' F2 (p :: L) := d.swap.step hk m hF
end
end Go.Proofs.YthkodjkkcgdmfaaGreat.Hart
end
