/- Parts of the walks and laws for the claim: Word, DecR, DecS, Encode, REnc, WordE, DecG, OneI; no conditions beyond the theorems' own. -/
import Derived.Deep.Cut
import Derived.Test.YthkodjkkcgdmfaaGreatS8
import Derived.Test.YthkodjkkcgdmfaaGreatS10
import Derived.Test.YthkodjkkcgdmfaaGreatS12
section
namespace Go.Proofs.YthkodjkkcgdmfaaGreat.Enc
open Go Go.RowKit Go.Proofs.YthkodjkkcgdmfaaGreat.Step
set_option linter.unusedVariables false
set_option linter.unusedSimpArgs false
set_option maxRecDepth 100000
/-- The word that the document puts together. -/
def wordF (k fn rd rs1 rs2 imm sz : Int) (sg : Bool) : Int :=
  if k = 1 then rbor (rbor (55) ((pt (rd) 5 7))) ((pt (imm / 4096) 20 12)) else (if k = 2 then rbor (rbor (23) ((pt (rd) 5 7))) ((pt (imm / 4096) 20 12)) else (if k = 3 then rbor (rbor 111 (pt (rd) 5 7)) (rbor (rbor (rbor ((pt (imm / 1048576) 1 31)) ((pt (imm / 4096) 8 12))) ((pt (imm / 2048) 1 20))) ((pt (imm / 2) 10 21))) else (if k = 4 then rbor (rbor (rbor (103) ((pt (rd) 5 7))) ((pt (rs1) 5 15))) ((pt (imm) 12 20)) else (if k = 5 then rbor (rbor (rbor (rbor (99) ((pt (pk bwL fn) 3 12))) ((pt (rs1) 5 15))) ((pt (rs2) 5 20))) (rbor (rbor (rbor ((pt (imm / 4096) 1 31)) ((pt (imm / 2048) 1 7))) ((pt (imm / 32) 6 25))) ((pt (imm / 2) 4 8))) else (if k = 6 then (if sg = true then rbor (rbor (rbor (rbor (3) ((pk szL sz) * 4096)) ((pt (rd) 5 7))) ((pt (rs1) 5 15))) ((pt (imm) 12 20)) else rbor (rbor (rbor (rbor (3) (((pk szL sz) + 4) * 4096)) ((pt (rd) 5 7))) ((pt (rs1) 5 15))) ((pt (imm) 12 20))) else (if k = 7 then rbor (rbor (rbor (rbor (rbor (35) ((pk szL sz) * 4096)) ((pt (rs1) 5 15))) ((pt (rs2) 5 20))) ((pt (imm) 5 7))) ((pt (imm / 32) 7 25)) else (if k = 9 then (if (decide (19 ≤ fn) && decide (fn ≤ 23)) = true then rbor (rbor (rbor (rbor (27) ((al fn))) ((pt (rd) 5 7))) ((pt (rs1) 5 15))) ((pt (imm) 12 20)) else rbor (rbor (rbor (rbor (19) ((al fn))) ((pt (rd) 5 7))) ((pt (rs1) 5 15))) ((pt (imm) 12 20))) else (if k = 8 then (if 19 ≤ fn then rbor (rbor 59 (al fn)) (rbor (rbor ((pt (rd) 5 7)) ((pt (rs1) 5 15))) ((pt (rs2) 5 20))) else rbor (rbor 51 (al fn)) (rbor (rbor ((pt (rd) 5 7)) ((pt (rs1) 5 15))) ((pt (rs2) 5 20)))) else (if k = 10 then 15 else (if k = 11 then 115 else (if k = 12 then 1048691 else (if k = 18 then 270532723 else (if k = 19 then 273678451 else (if k = 20 then rbor (rbor (301990003) ((pt (rs1) 5 15))) ((pt (rs2) 5 20)) else (if k = 13 then rbor (rbor (rbor (rbor (115) ((pt (fn) 2 12))) ((pt (rd) 5 7))) ((pt (rs1) 5 15))) ((pt (imm) 12 20)) else (if k = 14 then rbor (rbor (rbor (rbor (16499) ((pt (fn) 2 12))) ((pt (rd) 5 7))) ((pt (rs1) 5 15))) ((pt (imm) 12 20)) else (if k = 15 then rbor (rbor (rbor (268435503) ((pk szL sz) * 4096)) ((pt (rd) 5 7))) ((pt (rs1) 5 15)) else (if k = 16 then rbor (rbor 402653231 ((pk szL sz) * 4096)) (rbor (rbor ((pt (rd) 5 7)) ((pt (rs1) 5 15))) ((pt (rs2) 5 20))) else (if k = 17 then rbor (rbor (rbor (47) ((pt (pk amW fn) 5 27))) ((pk szL sz) * 4096)) (rbor (rbor ((pt (rd) 5 7)) ((pt (rs1) 5 15))) ((pt (rs2) 5 20))) else (0))))))))))))))))))))
set_option maxHeartbeats 32000000 in
theorem word_any (k fn rd rs1 rs2 imm sz : Int) (sg : Bool) (hf : 0 ≤ fn ∧ fn ≤ 28) (hz : 0 ≤ sz ∧ sz ≤ 8) (w : World) : Calls Tryz.prog 44 #[.agg #[.int .i64 k, .int .i64 fn, .int .i64 rd, .int .i64 rs1, .int .i64 rs2, .int .i64 imm, .int .i64 sz, .bool sg]] w fun e w' => e = .returned (.int .u32 (wordF k fn rd rs1 rs2 imm sz sg)) ∧ Below w.heap.size w w' := by
  have TQ1 := Lib.hid (fun w => calls_same (show Calls Tryz.prog 67 #[.int .i64 (rd), .int .i64 5, .int .i64 7] w fun e w' => e = .returned (.int .u32 (pt (rd) 5 7)) ∧ w = w' from at_any (rd) 5 7 5 7 rfl rfl (by decide) (by decide) w))
  have TQ2 := Lib.hid (fun w => calls_same (show Calls Tryz.prog 67 #[.int .i64 (rs1), .int .i64 5, .int .i64 15] w fun e w' => e = .returned (.int .u32 (pt (rs1) 5 15)) ∧ w = w' from at_any (rs1) 5 15 5 15 rfl rfl (by decide) (by decide) w))
  have TQ3 := Lib.hid (fun w => calls_same (show Calls Tryz.prog 67 #[.int .i64 (rs2), .int .i64 5, .int .i64 20] w fun e w' => e = .returned (.int .u32 (pt (rs2) 5 20)) ∧ w = w' from at_any (rs2) 5 20 5 20 rfl rfl (by decide) (by decide) w))
  have TB0 := Lib.hid (fun w => calls_same (show Calls Tryz.prog 67 #[.int .i64 (imm / 4096), .int .i64 1, .int .i64 31] w fun e w' => e = .returned (.int .u32 (pt (imm / 4096) 1 31)) ∧ w = w' from at_any (imm / 4096) 1 31 1 31 rfl rfl (by decide) (by decide) w))
  have TB1 := Lib.hid (fun w => calls_same (show Calls Tryz.prog 67 #[.int .i64 (imm / 2048), .int .i64 1, .int .i64 7] w fun e w' => e = .returned (.int .u32 (pt (imm / 2048) 1 7)) ∧ w = w' from at_any (imm / 2048) 1 7 1 7 rfl rfl (by decide) (by decide) w))
  have TB2 := Lib.hid (fun w => calls_same (show Calls Tryz.prog 67 #[.int .i64 (imm / 32), .int .i64 6, .int .i64 25] w fun e w' => e = .returned (.int .u32 (pt (imm / 32) 6 25)) ∧ w = w' from at_any (imm / 32) 6 25 6 25 rfl rfl (by decide) (by decide) w))
  have TB3 := Lib.hid (fun w => calls_same (show Calls Tryz.prog 67 #[.int .i64 (imm / 2), .int .i64 4, .int .i64 8] w fun e w' => e = .returned (.int .u32 (pt (imm / 2) 4 8)) ∧ w = w' from at_any (imm / 2) 4 8 4 8 rfl rfl (by decide) (by decide) w))
  have TJ0 := Lib.hid (fun w => calls_same (show Calls Tryz.prog 67 #[.int .i64 (imm / 1048576), .int .i64 1, .int .i64 31] w fun e w' => e = .returned (.int .u32 (pt (imm / 1048576) 1 31)) ∧ w = w' from at_any (imm / 1048576) 1 31 1 31 rfl rfl (by decide) (by decide) w))
  have TJ1 := Lib.hid (fun w => calls_same (show Calls Tryz.prog 67 #[.int .i64 (imm / 4096), .int .i64 8, .int .i64 12] w fun e w' => e = .returned (.int .u32 (pt (imm / 4096) 8 12)) ∧ w = w' from at_any (imm / 4096) 8 12 8 12 rfl rfl (by decide) (by decide) w))
  have TJ2 := Lib.hid (fun w => calls_same (show Calls Tryz.prog 67 #[.int .i64 (imm / 2048), .int .i64 1, .int .i64 20] w fun e w' => e = .returned (.int .u32 (pt (imm / 2048) 1 20)) ∧ w = w' from at_any (imm / 2048) 1 20 1 20 rfl rfl (by decide) (by decide) w))
  have TJ3 := Lib.hid (fun w => calls_same (show Calls Tryz.prog 67 #[.int .i64 (imm / 2), .int .i64 10, .int .i64 21] w fun e w' => e = .returned (.int .u32 (pt (imm / 2) 10 21)) ∧ w = w' from at_any (imm / 2) 10 21 10 21 rfl rfl (by decide) (by decide) w))
  have TU0 := Lib.hid (fun w => calls_same (show Calls Tryz.prog 67 #[.int .i64 (imm / 4096), .int .i64 20, .int .i64 12] w fun e w' => e = .returned (.int .u32 (pt (imm / 4096) 20 12)) ∧ w = w' from at_any (imm / 4096) 20 12 20 12 rfl rfl (by decide) (by decide) w))
  have TI0 := Lib.hid (fun w => calls_same (show Calls Tryz.prog 67 #[.int .i64 (imm), .int .i64 12, .int .i64 20] w fun e w' => e = .returned (.int .u32 (pt (imm) 12 20)) ∧ w = w' from at_any (imm) 12 20 12 20 rfl rfl (by decide) (by decide) w))
  have TF0 := Lib.hid (fun w => calls_same (show Calls Tryz.prog 67 #[.int .i64 (pk bwL fn), .int .i64 3, .int .i64 12] w fun e w' => e = .returned (.int .u32 (pt (pk bwL fn) 3 12)) ∧ w = w' from at_any (pk bwL fn) 3 12 3 12 rfl rfl (by decide) (by decide) w))
  have TS0 := Lib.hid (fun w => calls_same (show Calls Tryz.prog 67 #[.int .i64 (imm), .int .i64 5, .int .i64 7] w fun e w' => e = .returned (.int .u32 (pt (imm) 5 7)) ∧ w = w' from at_any (imm) 5 7 5 7 rfl rfl (by decide) (by decide) w))
  have TS7 := Lib.hid (fun w => calls_same (show Calls Tryz.prog 67 #[.int .i64 (imm / 32), .int .i64 7, .int .i64 25] w fun e w' => e = .returned (.int .u32 (pt (imm / 32) 7 25)) ∧ w = w' from at_any (imm / 32) 7 25 7 25 rfl rfl (by decide) (by decide) w))
  have TC0 := Lib.hid (fun w => calls_same (show Calls Tryz.prog 67 #[.int .i64 (fn), .int .i64 2, .int .i64 12] w fun e w' => e = .returned (.int .u32 (pt (fn) 2 12)) ∧ w = w' from at_any (fn) 2 12 2 12 rfl rfl (by decide) (by decide) w))
  have TM0 := Lib.hid (fun w => calls_same (show Calls Tryz.prog 67 #[.int .i64 (pk amW fn), .int .i64 5, .int .i64 27] w fun e w' => e = .returned (.int .u32 (pt (pk amW fn) 5 27)) ∧ w = w' from at_any (pk amW fn) 5 27 5 27 rfl rfl (by decide) (by decide) w))
  have TL := Lib.hid (alu_any fn hf)
  have TI := Lib.hid in_any
  have HX := Lib.hid (show -9223372036854775808 ≤ sz ∧ sz < 9223372036854775808 by omega)
  have HY := Lib.hid (show -9223372036854775808 ≤ fn ∧ fn < 9223372036854775808 by omega)
  have hS : 0 ≤ pk szL sz ∧ pk szL sz ≤ 3 := by
    obtain h | h | h | h | h | h | h | h | h : sz = 0 ∨ sz = 1 ∨ sz = 2 ∨ sz = 3 ∨ sz = 4 ∨ sz = 5 ∨ sz = 6 ∨ sz = 7 ∨ sz = 8 := by omega
    all_goals (subst h; decide)
  unfold wordF
  generalize pt (rd) 5 7 = Q1 at *
  generalize pt (rs1) 5 15 = Q2 at *
  generalize pt (rs2) 5 20 = Q3 at *
  generalize pt (imm / 4096) 1 31 = B0 at *
  generalize pt (imm / 2048) 1 7 = B1 at *
  generalize pt (imm / 32) 6 25 = B2 at *
  generalize pt (imm / 2) 4 8 = B3 at *
  generalize pt (imm / 1048576) 1 31 = J0 at *
  generalize pt (imm / 4096) 8 12 = J1 at *
  generalize pt (imm / 2048) 1 20 = J2 at *
  generalize pt (imm / 2) 10 21 = J3 at *
  generalize pt (imm / 4096) 20 12 = U0 at *
  generalize pt (imm) 12 20 = I0 at *
  generalize pt (pk bwL fn) 3 12 = F0 at *
  generalize pt (imm) 5 7 = S0 at *
  generalize pt (imm / 32) 7 25 = S7 at *
  generalize pt (fn) 2 12 = C0 at *
  generalize pt (pk amW fn) 5 27 = M0 at *
  generalize al fn = A at *
  obtain ⟨S, hs⟩ : ∃ S, pk szL sz = S := ⟨_, rfl⟩
  rw [hs] at hS ⊢
  have hs : pk ([0, 0, 1, 0, 2, 0, 0, 0, 3] : List Int) sz = S := hs
  obtain ⟨bv, hbv⟩ : ∃ bv, pk bwL fn = bv := ⟨_, rfl⟩
  rw [hbv] at TF0
  have hbv : pk ([0, 0, 1, 4, 5, 6, 7] : List Int) fn = bv := hbv
  obtain ⟨av, hav⟩ : ∃ av, pk amW fn = av := ⟨_, rfl⟩
  rw [hav] at TM0
  have hav : pk ([0, 1, 0, 4, 12, 8, 16, 20, 24, 28] : List Int) fn = av := hav
  clear hf hz
  have hW4 : IntKind.u32.wrap (S * 4096) = S * 4096 := by show (_ : Int) % 4294967296 = _; omega
  obtain ⟨E_, hEq⟩ : ∃ E_, (if k = 1 then rbor (rbor (55) (Q1)) (U0) else (if k = 2 then rbor (rbor (23) (Q1)) (U0) else (if k = 3 then rbor (rbor 111 Q1) (rbor (rbor (rbor (J0) (J1)) (J2)) (J3)) else (if k = 4 then rbor (rbor (rbor (103) (Q1)) (Q2)) (I0) else (if k = 5 then rbor (rbor (rbor (rbor (99) (F0)) (Q2)) (Q3)) (rbor (rbor (rbor (B0) (B1)) (B2)) (B3)) else (if k = 6 then (if sg = true then rbor (rbor (rbor (rbor (3) (S * 4096)) (Q1)) (Q2)) (I0) else rbor (rbor (rbor (rbor (3) ((S + 4) * 4096)) (Q1)) (Q2)) (I0)) else (if k = 7 then rbor (rbor (rbor (rbor (rbor (35) (S * 4096)) (Q2)) (Q3)) (S0)) (S7) else (if k = 9 then (if (decide (19 ≤ fn) && decide (fn ≤ 23)) = true then rbor (rbor (rbor (rbor (27) (A)) (Q1)) (Q2)) (I0) else rbor (rbor (rbor (rbor (19) (A)) (Q1)) (Q2)) (I0)) else (if k = 8 then (if 19 ≤ fn then rbor (rbor 59 A) (rbor (rbor (Q1) (Q2)) (Q3)) else rbor (rbor 51 A) (rbor (rbor (Q1) (Q2)) (Q3))) else (if k = 10 then 15 else (if k = 11 then 115 else (if k = 12 then 1048691 else (if k = 18 then 270532723 else (if k = 19 then 273678451 else (if k = 20 then rbor (rbor (301990003) (Q2)) (Q3) else (if k = 13 then rbor (rbor (rbor (rbor (115) (C0)) (Q1)) (Q2)) (I0) else (if k = 14 then rbor (rbor (rbor (rbor (16499) (C0)) (Q1)) (Q2)) (I0) else (if k = 15 then rbor (rbor (rbor (268435503) (S * 4096)) (Q1)) (Q2) else (if k = 16 then rbor (rbor 402653231 (S * 4096)) (rbor (rbor (Q1) (Q2)) (Q3)) else (if k = 17 then rbor (rbor (rbor (47) (M0)) (S * 4096)) (rbor (rbor (Q1) (Q2)) (Q3)) else (0)))))))))))))))))))) : Int) = E_ := ⟨_, rfl⟩
  rw [hEq]
  have hd : (k = 1 ∧ E_ = rbor (rbor (55) (Q1)) (U0)) ∨ (¬ (k = 1) ∧ k = 2 ∧ E_ = rbor (rbor (23) (Q1)) (U0)) ∨ (¬ (k = 1) ∧ ¬ (k = 2) ∧ k = 3 ∧ E_ = rbor (rbor 111 Q1) (rbor (rbor (rbor (J0) (J1)) (J2)) (J3))) ∨ (¬ (k = 1) ∧ ¬ (k = 2) ∧ ¬ (k = 3) ∧ k = 4 ∧ E_ = rbor (rbor (rbor (103) (Q1)) (Q2)) (I0)) ∨ (¬ (k = 1) ∧ ¬ (k = 2) ∧ ¬ (k = 3) ∧ ¬ (k = 4) ∧ k = 5 ∧ E_ = rbor (rbor (rbor (rbor (99) (F0)) (Q2)) (Q3)) (rbor (rbor (rbor (B0) (B1)) (B2)) (B3))) ∨ (¬ (k = 1) ∧ ¬ (k = 2) ∧ ¬ (k = 3) ∧ ¬ (k = 4) ∧ ¬ (k = 5) ∧ k = 6 ∧ sg = true ∧ E_ = rbor (rbor (rbor (rbor (3) (S * 4096)) (Q1)) (Q2)) (I0)) ∨ (¬ (k = 1) ∧ ¬ (k = 2) ∧ ¬ (k = 3) ∧ ¬ (k = 4) ∧ ¬ (k = 5) ∧ k = 6 ∧ ¬ (sg = true) ∧ E_ = rbor (rbor (rbor (rbor (3) ((S + 4) * 4096)) (Q1)) (Q2)) (I0)) ∨ (¬ (k = 1) ∧ ¬ (k = 2) ∧ ¬ (k = 3) ∧ ¬ (k = 4) ∧ ¬ (k = 5) ∧ ¬ (k = 6) ∧ k = 7 ∧ E_ = rbor (rbor (rbor (rbor (rbor (35) (S * 4096)) (Q2)) (Q3)) (S0)) (S7)) ∨ (¬ (k = 1) ∧ ¬ (k = 2) ∧ ¬ (k = 3) ∧ ¬ (k = 4) ∧ ¬ (k = 5) ∧ ¬ (k = 6) ∧ ¬ (k = 7) ∧ k = 9 ∧ (decide (19 ≤ fn) && decide (fn ≤ 23)) = true ∧ E_ = rbor (rbor (rbor (rbor (27) (A)) (Q1)) (Q2)) (I0)) ∨ (¬ (k = 1) ∧ ¬ (k = 2) ∧ ¬ (k = 3) ∧ ¬ (k = 4) ∧ ¬ (k = 5) ∧ ¬ (k = 6) ∧ ¬ (k = 7) ∧ k = 9 ∧ ¬ ((decide (19 ≤ fn) && decide (fn ≤ 23)) = true) ∧ E_ = rbor (rbor (rbor (rbor (19) (A)) (Q1)) (Q2)) (I0)) ∨ (¬ (k = 1) ∧ ¬ (k = 2) ∧ ¬ (k = 3) ∧ ¬ (k = 4) ∧ ¬ (k = 5) ∧ ¬ (k = 6) ∧ ¬ (k = 7) ∧ ¬ (k = 9) ∧ k = 8 ∧ 19 ≤ fn ∧ E_ = rbor (rbor 59 A) (rbor (rbor (Q1) (Q2)) (Q3))) ∨ (¬ (k = 1) ∧ ¬ (k = 2) ∧ ¬ (k = 3) ∧ ¬ (k = 4) ∧ ¬ (k = 5) ∧ ¬ (k = 6) ∧ ¬ (k = 7) ∧ ¬ (k = 9) ∧ k = 8 ∧ ¬ (19 ≤ fn) ∧ E_ = rbor (rbor 51 A) (rbor (rbor (Q1) (Q2)) (Q3))) ∨ (¬ (k = 1) ∧ ¬ (k = 2) ∧ ¬ (k = 3) ∧ ¬ (k = 4) ∧ ¬ (k = 5) ∧ ¬ (k = 6) ∧ ¬ (k = 7) ∧ ¬ (k = 9) ∧ ¬ (k = 8) ∧ k = 10 ∧ E_ = 15) ∨ (¬ (k = 1) ∧ ¬ (k = 2) ∧ ¬ (k = 3) ∧ ¬ (k = 4) ∧ ¬ (k = 5) ∧ ¬ (k = 6) ∧ ¬ (k = 7) ∧ ¬ (k = 9) ∧ ¬ (k = 8) ∧ ¬ (k = 10) ∧ k = 11 ∧ E_ = 115) ∨ (¬ (k = 1) ∧ ¬ (k = 2) ∧ ¬ (k = 3) ∧ ¬ (k = 4) ∧ ¬ (k = 5) ∧ ¬ (k = 6) ∧ ¬ (k = 7) ∧ ¬ (k = 9) ∧ ¬ (k = 8) ∧ ¬ (k = 10) ∧ ¬ (k = 11) ∧ k = 12 ∧ E_ = 1048691) ∨ (¬ (k = 1) ∧ ¬ (k = 2) ∧ ¬ (k = 3) ∧ ¬ (k = 4) ∧ ¬ (k = 5) ∧ ¬ (k = 6) ∧ ¬ (k = 7) ∧ ¬ (k = 9) ∧ ¬ (k = 8) ∧ ¬ (k = 10) ∧ ¬ (k = 11) ∧ ¬ (k = 12) ∧ k = 18 ∧ E_ = 270532723) ∨ (¬ (k = 1) ∧ ¬ (k = 2) ∧ ¬ (k = 3) ∧ ¬ (k = 4) ∧ ¬ (k = 5) ∧ ¬ (k = 6) ∧ ¬ (k = 7) ∧ ¬ (k = 9) ∧ ¬ (k = 8) ∧ ¬ (k = 10) ∧ ¬ (k = 11) ∧ ¬ (k = 12) ∧ ¬ (k = 18) ∧ k = 19 ∧ E_ = 273678451) ∨ (¬ (k = 1) ∧ ¬ (k = 2) ∧ ¬ (k = 3) ∧ ¬ (k = 4) ∧ ¬ (k = 5) ∧ ¬ (k = 6) ∧ ¬ (k = 7) ∧ ¬ (k = 9) ∧ ¬ (k = 8) ∧ ¬ (k = 10) ∧ ¬ (k = 11) ∧ ¬ (k = 12) ∧ ¬ (k = 18) ∧ ¬ (k = 19) ∧ k = 20 ∧ E_ = rbor (rbor (301990003) (Q2)) (Q3)) ∨ (¬ (k = 1) ∧ ¬ (k = 2) ∧ ¬ (k = 3) ∧ ¬ (k = 4) ∧ ¬ (k = 5) ∧ ¬ (k = 6) ∧ ¬ (k = 7) ∧ ¬ (k = 9) ∧ ¬ (k = 8) ∧ ¬ (k = 10) ∧ ¬ (k = 11) ∧ ¬ (k = 12) ∧ ¬ (k = 18) ∧ ¬ (k = 19) ∧ ¬ (k = 20) ∧ k = 13 ∧ E_ = rbor (rbor (rbor (rbor (115) (C0)) (Q1)) (Q2)) (I0)) ∨ (¬ (k = 1) ∧ ¬ (k = 2) ∧ ¬ (k = 3) ∧ ¬ (k = 4) ∧ ¬ (k = 5) ∧ ¬ (k = 6) ∧ ¬ (k = 7) ∧ ¬ (k = 9) ∧ ¬ (k = 8) ∧ ¬ (k = 10) ∧ ¬ (k = 11) ∧ ¬ (k = 12) ∧ ¬ (k = 18) ∧ ¬ (k = 19) ∧ ¬ (k = 20) ∧ ¬ (k = 13) ∧ k = 14 ∧ E_ = rbor (rbor (rbor (rbor (16499) (C0)) (Q1)) (Q2)) (I0)) ∨ (¬ (k = 1) ∧ ¬ (k = 2) ∧ ¬ (k = 3) ∧ ¬ (k = 4) ∧ ¬ (k = 5) ∧ ¬ (k = 6) ∧ ¬ (k = 7) ∧ ¬ (k = 9) ∧ ¬ (k = 8) ∧ ¬ (k = 10) ∧ ¬ (k = 11) ∧ ¬ (k = 12) ∧ ¬ (k = 18) ∧ ¬ (k = 19) ∧ ¬ (k = 20) ∧ ¬ (k = 13) ∧ ¬ (k = 14) ∧ k = 15 ∧ E_ = rbor (rbor (rbor (268435503) (S * 4096)) (Q1)) (Q2)) ∨ (¬ (k = 1) ∧ ¬ (k = 2) ∧ ¬ (k = 3) ∧ ¬ (k = 4) ∧ ¬ (k = 5) ∧ ¬ (k = 6) ∧ ¬ (k = 7) ∧ ¬ (k = 9) ∧ ¬ (k = 8) ∧ ¬ (k = 10) ∧ ¬ (k = 11) ∧ ¬ (k = 12) ∧ ¬ (k = 18) ∧ ¬ (k = 19) ∧ ¬ (k = 20) ∧ ¬ (k = 13) ∧ ¬ (k = 14) ∧ ¬ (k = 15) ∧ k = 16 ∧ E_ = rbor (rbor 402653231 (S * 4096)) (rbor (rbor (Q1) (Q2)) (Q3))) ∨ (¬ (k = 1) ∧ ¬ (k = 2) ∧ ¬ (k = 3) ∧ ¬ (k = 4) ∧ ¬ (k = 5) ∧ ¬ (k = 6) ∧ ¬ (k = 7) ∧ ¬ (k = 9) ∧ ¬ (k = 8) ∧ ¬ (k = 10) ∧ ¬ (k = 11) ∧ ¬ (k = 12) ∧ ¬ (k = 18) ∧ ¬ (k = 19) ∧ ¬ (k = 20) ∧ ¬ (k = 13) ∧ ¬ (k = 14) ∧ ¬ (k = 15) ∧ ¬ (k = 16) ∧ k = 17 ∧ E_ = rbor (rbor (rbor (47) (M0)) (S * 4096)) (rbor (rbor (Q1) (Q2)) (Q3))) ∨ (¬ (k = 1) ∧ ¬ (k = 2) ∧ ¬ (k = 3) ∧ ¬ (k = 4) ∧ ¬ (k = 5) ∧ ¬ (k = 6) ∧ ¬ (k = 7) ∧ ¬ (k = 9) ∧ ¬ (k = 8) ∧ ¬ (k = 10) ∧ ¬ (k = 11) ∧ ¬ (k = 12) ∧ ¬ (k = 18) ∧ ¬ (k = 19) ∧ ¬ (k = 20) ∧ ¬ (k = 13) ∧ ¬ (k = 14) ∧ ¬ (k = 15) ∧ ¬ (k = 16) ∧ ¬ (k = 17) ∧ E_ = 0) := by
    by_cases c0 : k = 1
    · exact Or.inl ⟨c0, by rw [← hEq]; simp [c0]⟩
    · by_cases c1 : k = 2
      · exact Or.inr (Or.inl ⟨c0, c1, by rw [← hEq]; simp [c0, c1]⟩)
      · by_cases c2 : k = 3
        · exact Or.inr (Or.inr (Or.inl ⟨c0, c1, c2, by rw [← hEq]; simp [c0, c1, c2]⟩))
        · by_cases c3 : k = 4
          · exact Or.inr (Or.inr (Or.inr (Or.inl ⟨c0, c1, c2, c3, by rw [← hEq]; simp [c0, c1, c2, c3]⟩)))
          · by_cases c4 : k = 5
            · exact Or.inr (Or.inr (Or.inr (Or.inr (Or.inl ⟨c0, c1, c2, c3, c4, by rw [← hEq]; simp [c0, c1, c2, c3, c4]⟩))))
            · by_cases c5 : k = 6
              · by_cases c6 : sg = true
                · exact Or.inr (Or.inr (Or.inr (Or.inr (Or.inr (Or.inl ⟨c0, c1, c2, c3, c4, c5, c6, by rw [← hEq]; simp [c0, c1, c2, c3, c4, c5, c6]⟩)))))
                · exact Or.inr (Or.inr (Or.inr (Or.inr (Or.inr (Or.inr (Or.inl ⟨c0, c1, c2, c3, c4, c5, c6, by rw [← hEq]; simp [c0, c1, c2, c3, c4, c5, c6]⟩))))))
              · by_cases c6 : k = 7
                · exact Or.inr (Or.inr (Or.inr (Or.inr (Or.inr (Or.inr (Or.inr (Or.inl ⟨c0, c1, c2, c3, c4, c5, c6, by rw [← hEq]; simp [c0, c1, c2, c3, c4, c5, c6]⟩)))))))
                · by_cases c7 : k = 9
                  · by_cases c8 : (decide (19 ≤ fn) && decide (fn ≤ 23)) = true
                    · exact Or.inr (Or.inr (Or.inr (Or.inr (Or.inr (Or.inr (Or.inr (Or.inr (Or.inl ⟨c0, c1, c2, c3, c4, c5, c6, c7, c8, by rw [← hEq]; simp [c0, c1, c2, c3, c4, c5, c6, c7, c8]⟩))))))))
                    · exact Or.inr (Or.inr (Or.inr (Or.inr (Or.inr (Or.inr (Or.inr (Or.inr (Or.inr (Or.inl ⟨c0, c1, c2, c3, c4, c5, c6, c7, c8, by rw [← hEq]; simp [c0, c1, c2, c3, c4, c5, c6, c7, c8]⟩)))))))))
                  · by_cases c8 : k = 8
                    · by_cases c9 : 19 ≤ fn
                      · exact Or.inr (Or.inr (Or.inr (Or.inr (Or.inr (Or.inr (Or.inr (Or.inr (Or.inr (Or.inr (Or.inl ⟨c0, c1, c2, c3, c4, c5, c6, c7, c8, c9, by rw [← hEq]; simp [c0, c1, c2, c3, c4, c5, c6, c7, c8, c9]⟩))))))))))
                      · exact Or.inr (Or.inr (Or.inr (Or.inr (Or.inr (Or.inr (Or.inr (Or.inr (Or.inr (Or.inr (Or.inr (Or.inl ⟨c0, c1, c2, c3, c4, c5, c6, c7, c8, c9, by rw [← hEq]; simp [c0, c1, c2, c3, c4, c5, c6, c7, c8, c9]⟩)))))))))))
                    · by_cases c9 : k = 10
                      · exact Or.inr (Or.inr (Or.inr (Or.inr (Or.inr (Or.inr (Or.inr (Or.inr (Or.inr (Or.inr (Or.inr (Or.inr (Or.inl ⟨c0, c1, c2, c3, c4, c5, c6, c7, c8, c9, by rw [← hEq]; simp [c0, c1, c2, c3, c4, c5, c6, c7, c8, c9]⟩))))))))))))
                      · by_cases c10 : k = 11
                        · exact Or.inr (Or.inr (Or.inr (Or.inr (Or.inr (Or.inr (Or.inr (Or.inr (Or.inr (Or.inr (Or.inr (Or.inr (Or.inr (Or.inl ⟨c0, c1, c2, c3, c4, c5, c6, c7, c8, c9, c10, by rw [← hEq]; simp [c0, c1, c2, c3, c4, c5, c6, c7, c8, c9, c10]⟩)))))))))))))
                        · by_cases c11 : k = 12
                          · exact Or.inr (Or.inr (Or.inr (Or.inr (Or.inr (Or.inr (Or.inr (Or.inr (Or.inr (Or.inr (Or.inr (Or.inr (Or.inr (Or.inr (Or.inl ⟨c0, c1, c2, c3, c4, c5, c6, c7, c8, c9, c10, c11, by rw [← hEq]; simp [c0, c1, c2, c3, c4, c5, c6, c7, c8, c9, c10, c11]⟩))))))))))))))
                          · by_cases c12 : k = 18
                            · exact Or.inr (Or.inr (Or.inr (Or.inr (Or.inr (Or.inr (Or.inr (Or.inr (Or.inr (Or.inr (Or.inr (Or.inr (Or.inr (Or.inr (Or.inr (Or.inl ⟨c0, c1, c2, c3, c4, c5, c6, c7, c8, c9, c10, c11, c12, by rw [← hEq]; simp [c0, c1, c2, c3, c4, c5, c6, c7, c8, c9, c10, c11, c12]⟩)))))))))))))))
                            · by_cases c13 : k = 19
                              · exact Or.inr (Or.inr (Or.inr (Or.inr (Or.inr (Or.inr (Or.inr (Or.inr (Or.inr (Or.inr (Or.inr (Or.inr (Or.inr (Or.inr (Or.inr (Or.inr (Or.inl ⟨c0, c1, c2, c3, c4, c5, c6, c7, c8, c9, c10, c11, c12, c13, by rw [← hEq]; simp [c0, c1, c2, c3, c4, c5, c6, c7, c8, c9, c10, c11, c12, c13]⟩))))))))))))))))
                              · by_cases c14 : k = 20
                                · exact Or.inr (Or.inr (Or.inr (Or.inr (Or.inr (Or.inr (Or.inr (Or.inr (Or.inr (Or.inr (Or.inr (Or.inr (Or.inr (Or.inr (Or.inr (Or.inr (Or.inr (Or.inl ⟨c0, c1, c2, c3, c4, c5, c6, c7, c8, c9, c10, c11, c12, c13, c14, by rw [← hEq]; simp [c0, c1, c2, c3, c4, c5, c6, c7, c8, c9, c10, c11, c12, c13, c14]⟩)))))))))))))))))
                                · by_cases c15 : k = 13
                                  · exact Or.inr (Or.inr (Or.inr (Or.inr (Or.inr (Or.inr (Or.inr (Or.inr (Or.inr (Or.inr (Or.inr (Or.inr (Or.inr (Or.inr (Or.inr (Or.inr (Or.inr (Or.inr (Or.inl ⟨c0, c1, c2, c3, c4, c5, c6, c7, c8, c9, c10, c11, c12, c13, c14, c15, by rw [← hEq]; simp [c0, c1, c2, c3, c4, c5, c6, c7, c8, c9, c10, c11, c12, c13, c14, c15]⟩))))))))))))))))))
                                  · by_cases c16 : k = 14
                                    · exact Or.inr (Or.inr (Or.inr (Or.inr (Or.inr (Or.inr (Or.inr (Or.inr (Or.inr (Or.inr (Or.inr (Or.inr (Or.inr (Or.inr (Or.inr (Or.inr (Or.inr (Or.inr (Or.inr (Or.inl ⟨c0, c1, c2, c3, c4, c5, c6, c7, c8, c9, c10, c11, c12, c13, c14, c15, c16, by rw [← hEq]; simp [c0, c1, c2, c3, c4, c5, c6, c7, c8, c9, c10, c11, c12, c13, c14, c15, c16]⟩)))))))))))))))))))
                                    · by_cases c17 : k = 15
                                      · exact Or.inr (Or.inr (Or.inr (Or.inr (Or.inr (Or.inr (Or.inr (Or.inr (Or.inr (Or.inr (Or.inr (Or.inr (Or.inr (Or.inr (Or.inr (Or.inr (Or.inr (Or.inr (Or.inr (Or.inr (Or.inl ⟨c0, c1, c2, c3, c4, c5, c6, c7, c8, c9, c10, c11, c12, c13, c14, c15, c16, c17, by rw [← hEq]; simp [c0, c1, c2, c3, c4, c5, c6, c7, c8, c9, c10, c11, c12, c13, c14, c15, c16, c17]⟩))))))))))))))))))))
                                      · by_cases c18 : k = 16
                                        · exact Or.inr (Or.inr (Or.inr (Or.inr (Or.inr (Or.inr (Or.inr (Or.inr (Or.inr (Or.inr (Or.inr (Or.inr (Or.inr (Or.inr (Or.inr (Or.inr (Or.inr (Or.inr (Or.inr (Or.inr (Or.inr (Or.inl ⟨c0, c1, c2, c3, c4, c5, c6, c7, c8, c9, c10, c11, c12, c13, c14, c15, c16, c17, c18, by rw [← hEq]; simp [c0, c1, c2, c3, c4, c5, c6, c7, c8, c9, c10, c11, c12, c13, c14, c15, c16, c17, c18]⟩)))))))))))))))))))))
                                        · by_cases c19 : k = 17
                                          · exact Or.inr (Or.inr (Or.inr (Or.inr (Or.inr (Or.inr (Or.inr (Or.inr (Or.inr (Or.inr (Or.inr (Or.inr (Or.inr (Or.inr (Or.inr (Or.inr (Or.inr (Or.inr (Or.inr (Or.inr (Or.inr (Or.inr (Or.inl ⟨c0, c1, c2, c3, c4, c5, c6, c7, c8, c9, c10, c11, c12, c13, c14, c15, c16, c17, c18, c19, by rw [← hEq]; simp [c0, c1, c2, c3, c4, c5, c6, c7, c8, c9, c10, c11, c12, c13, c14, c15, c16, c17, c18, c19]⟩))))))))))))))))))))))
                                          · exact Or.inr (Or.inr (Or.inr (Or.inr (Or.inr (Or.inr (Or.inr (Or.inr (Or.inr (Or.inr (Or.inr (Or.inr (Or.inr (Or.inr (Or.inr (Or.inr (Or.inr (Or.inr (Or.inr (Or.inr (Or.inr (Or.inr (Or.inr (⟨c0, c1, c2, c3, c4, c5, c6, c7, c8, c9, c10, c11, c12, c13, c14, c15, c16, c17, c18, c19, by rw [← hEq]; simp [c0, c1, c2, c3, c4, c5, c6, c7, c8, c9, c10, c11, c12, c13, c14, c15, c16, c17, c18, c19]⟩)))))))))))))))))))))))
  clear hEq
  go_enter Tryz.func44, Tryz.ntmps44
  go_upto_region 9 with (first
    | (go_at_call 67; (with_reducible refine (TQ1.out _).mono ?_); rintro e w' ⟨rfl, hb⟩; (try replace PB := Lib.hid (PB.out.below hb)); replace ST := Lib.hid (ST.out.call hb); clear hb)
    | (go_at_call 67; (with_reducible refine (TQ2.out _).mono ?_); rintro e w' ⟨rfl, hb⟩; (try replace PB := Lib.hid (PB.out.below hb)); replace ST := Lib.hid (ST.out.call hb); clear hb)
    | (go_at_call 67; (with_reducible refine (TQ3.out _).mono ?_); rintro e w' ⟨rfl, hb⟩; (try replace PB := Lib.hid (PB.out.below hb)); replace ST := Lib.hid (ST.out.call hb); clear hb)
    | ((with_reducible refine Step.gate_build (t := 53) rfl ?_); refine Step.freshSlice (cs := #[.int .i64 0, .int .i64 0, .int .i64 1, .int .i64 0, .int .i64 2, .int .i64 0, .int .i64 0, .int .i64 0, .int .i64 3]) (T := 3) (n := 9) (m := 9) rfl ?hr ?_; (case hr => first | (go_simp; done) | (go_simp; rfl)); intro g9 w1 b hg hb; have PB := Lib.hid (show Blk w1 g9 (Enc.ints ([0, 0, 1, 0, 2, 0, 0, 0, 3] : List Int)) _ from b); replace ST := Lib.hid (ST.out.call hb); clear b hb hg)
    | (go_at_call 68; (with_reducible refine (rpick_any (n := 9) PB.out ([0, 0, 1, 0, 2, 0, 0, 0, 3] : List Int) rfl rfl (by decide) _ HX.out).mono ?_); rintro e w' ⟨rfl, hb⟩; clear PB; replace ST := Lib.hid (ST.out.call hb); clear hb; rw [hs])
    | ((with_reducible refine one_region (id := 5) (fin := ?fin_9) ST.out ?hm_9 [(25, .pointer (some ⟨g1, 5, none⟩)), (26, .int .i64 (imm)), (27, .int .i64 (imm / 4096)), (28, .int .u32 (B0)), (29, .pointer (some ⟨g1, 5, none⟩)), (30, .int .i64 (imm)), (31, .int .i64 (imm / 2048)), (32, .int .u32 (B1)), (33, .int .u32 (bits .or .u32 (B0) (B1))), (34, .pointer (some ⟨g1, 5, none⟩)), (35, .int .i64 (imm)), (36, .int .i64 (imm / 32)), (37, .int .u32 (B2)), (38, .int .u32 (bits .or .u32 (bits .or .u32 (B0) (B1)) (B2))), (39, .pointer (some ⟨g1, 5, none⟩)), (40, .int .i64 (imm)), (41, .int .i64 (imm / 2)), (42, .int .u32 (B3)), (43, .int .u32 (bits .or .u32 (bits .or .u32 (bits .or .u32 (B0) (B1)) (B2)) (B3))), (7, .int .u32 (bits .or .u32 (bits .or .u32 (bits .or .u32 (B0) (B1)) (B2)) (B3)))] ?hord_9 ?hin_9 ?hfin_9 ?hdo_9 ?_); (case hm_9 => rfl); (case hord_9 => kernel_rfl); (case hin_9 => kernel_rfl); (case hfin_9 => (simp only [Reg.puts, Act.put, List.setIfInBounds_toArray, List.set_cons_zero, List.set_cons_succ]; try rfl)); (case hdo_9 => ((repeat' (first | exact stay1_nil | refine stay1_cons ?_ ?_)); all_goals (first | exact stay1_load rfl rfl rfl pl_int rfl rfl | exact stay1_load rfl rfl rfl pl_bool rfl rfl | exact stay1_call rfl rfl (fun X => by go_simp) (fun X => TB0.out X) rfl | exact stay1_call rfl rfl (fun X => by go_simp) (fun X => TB1.out X) rfl | exact stay1_call rfl rfl (fun X => by go_simp) (fun X => TB2.out X) rfl | exact stay1_call rfl rfl (fun X => by go_simp) (fun X => TB3.out X) rfl | exact stay1_slot rfl rfl (fun X => by first | (go_simp; done) | (go_simp; rfl))))); intro w' st_; clear ST; have ST := Lib.hid st_; clear st_)
    | ((with_reducible refine one_region (id := 6) (fin := ?fin_10) ST.out ?hm_10 [(44, .pointer (some ⟨g1, 5, none⟩)), (45, .int .i64 (imm)), (46, .int .i64 (imm / 1048576)), (47, .int .u32 (J0)), (48, .pointer (some ⟨g1, 5, none⟩)), (49, .int .i64 (imm)), (50, .int .i64 (imm / 4096)), (51, .int .u32 (J1)), (52, .int .u32 (bits .or .u32 (J0) (J1))), (53, .pointer (some ⟨g1, 5, none⟩)), (54, .int .i64 (imm)), (55, .int .i64 (imm / 2048)), (56, .int .u32 (J2)), (57, .int .u32 (bits .or .u32 (bits .or .u32 (J0) (J1)) (J2))), (58, .pointer (some ⟨g1, 5, none⟩)), (59, .int .i64 (imm)), (60, .int .i64 (imm / 2)), (61, .int .u32 (J3)), (62, .int .u32 (bits .or .u32 (bits .or .u32 (bits .or .u32 (J0) (J1)) (J2)) (J3))), (8, .int .u32 (bits .or .u32 (bits .or .u32 (bits .or .u32 (J0) (J1)) (J2)) (J3)))] ?hord_10 ?hin_10 ?hfin_10 ?hdo_10 ?_); (case hm_10 => rfl); (case hord_10 => kernel_rfl); (case hin_10 => kernel_rfl); (case hfin_10 => (simp only [Reg.puts, Act.put, List.setIfInBounds_toArray, List.set_cons_zero, List.set_cons_succ]; try rfl)); (case hdo_10 => ((repeat' (first | exact stay1_nil | refine stay1_cons ?_ ?_)); all_goals (first | exact stay1_load rfl rfl rfl pl_int rfl rfl | exact stay1_load rfl rfl rfl pl_bool rfl rfl | exact stay1_call rfl rfl (fun X => by go_simp) (fun X => TJ0.out X) rfl | exact stay1_call rfl rfl (fun X => by go_simp) (fun X => TJ1.out X) rfl | exact stay1_call rfl rfl (fun X => by go_simp) (fun X => TJ2.out X) rfl | exact stay1_call rfl rfl (fun X => by go_simp) (fun X => TJ3.out X) rfl | exact stay1_slot rfl rfl (fun X => by first | (go_simp; done) | (go_simp; rfl))))); intro w' st_; clear ST; have ST := Lib.hid st_; clear st_)
    | ((with_reducible refine Step.gate_box (t := 44) rfl ?_); refine Step.fresh (cs := #[.int .i64 k, .int .i64 fn, .int .i64 rd, .int .i64 rs1, .int .i64 rs2, .int .i64 imm, .int .i64 sz, .bool sg]) (T := 44) rfl ?hr ?_; (case hr => first | (go_simp; done) | (go_simp; rfl)); intro g1 w1 b hg hb; have ST := Lib.hid (S1.made b hg hb); clear b hg hb)
    | ((with_reducible refine Step.gate_store (t := 3) rfl ?_); refine Step.store ST.out.one rfl rfl rfl rfl rfl pl_int rfl rfl ?_; intro w3 nb m; replace ST := Lib.hid (ST.out.set1 nb m); clear nb m)
    | ((with_reducible refine Step.gate_store (t := 4) rfl ?_); refine Step.store ST.out.one rfl rfl rfl rfl rfl pl_bool rfl rfl ?_; intro w3 nb m; replace ST := Lib.hid (ST.out.set1 nb m); clear nb m)
    | ((with_reducible refine Step.gate_store (t := 44) rfl ?_); refine Step.storeAll ST.out.one rfl rfl rfl rfl rfl size_inst rfl rfl ?_; intro w3 nb m; replace ST := Lib.hid (ST.out.set1 nb m); clear nb m)
    | ((with_reducible refine Step.gate_load (t := 3) rfl ?_); refine Step.load ST.out.one rfl rfl rfl pl_int rfl ?_)
    | ((with_reducible refine Step.gate_load (t := 4) rfl ?_); refine Step.load ST.out.one rfl rfl rfl pl_bool rfl ?_)
    | ((with_reducible refine Step.gate_load (t := 44) rfl ?_); refine Step.loadAll ST.out.one rfl rfl rfl Tryz.underlying44 rfl size_inst ?_))
  rcases hd with ⟨c0, hE⟩ | ⟨c0, c1, hE⟩ | ⟨c0, c1, c2, hE⟩ | ⟨c0, c1, c2, c3, hE⟩ | ⟨c0, c1, c2, c3, c4, hE⟩ | ⟨c0, c1, c2, c3, c4, c5, c6, hE⟩ | ⟨c0, c1, c2, c3, c4, c5, c6, hE⟩ | ⟨c0, c1, c2, c3, c4, c5, c6, hE⟩ | ⟨c0, c1, c2, c3, c4, c5, c6, c7, c8, hE⟩ | ⟨c0, c1, c2, c3, c4, c5, c6, c7, c8, hE⟩ | ⟨c0, c1, c2, c3, c4, c5, c6, c7, c8, c9, hE⟩ | ⟨c0, c1, c2, c3, c4, c5, c6, c7, c8, c9, hE⟩ | ⟨c0, c1, c2, c3, c4, c5, c6, c7, c8, c9, hE⟩ | ⟨c0, c1, c2, c3, c4, c5, c6, c7, c8, c9, c10, hE⟩ | ⟨c0, c1, c2, c3, c4, c5, c6, c7, c8, c9, c10, c11, hE⟩ | ⟨c0, c1, c2, c3, c4, c5, c6, c7, c8, c9, c10, c11, c12, hE⟩ | ⟨c0, c1, c2, c3, c4, c5, c6, c7, c8, c9, c10, c11, c12, c13, hE⟩ | ⟨c0, c1, c2, c3, c4, c5, c6, c7, c8, c9, c10, c11, c12, c13, c14, hE⟩ | ⟨c0, c1, c2, c3, c4, c5, c6, c7, c8, c9, c10, c11, c12, c13, c14, c15, hE⟩ | ⟨c0, c1, c2, c3, c4, c5, c6, c7, c8, c9, c10, c11, c12, c13, c14, c15, c16, hE⟩ | ⟨c0, c1, c2, c3, c4, c5, c6, c7, c8, c9, c10, c11, c12, c13, c14, c15, c16, c17, hE⟩ | ⟨c0, c1, c2, c3, c4, c5, c6, c7, c8, c9, c10, c11, c12, c13, c14, c15, c16, c17, c18, hE⟩ | ⟨c0, c1, c2, c3, c4, c5, c6, c7, c8, c9, c10, c11, c12, c13, c14, c15, c16, c17, c18, c19, hE⟩ | ⟨c0, c1, c2, c3, c4, c5, c6, c7, c8, c9, c10, c11, c12, c13, c14, c15, c16, c17, c18, c19, hE⟩
  all_goals subst hE
  all_goals (
    go_wp2_with (first
      | (go_at_call 67; (with_reducible refine (TU0.out _).mono ?_); rintro e w' ⟨rfl, hb⟩; (try replace PB := Lib.hid (PB.out.below hb)); replace ST := Lib.hid (ST.out.call hb); clear hb)
      | (go_at_call 67; (with_reducible refine (TI0.out _).mono ?_); rintro e w' ⟨rfl, hb⟩; (try replace PB := Lib.hid (PB.out.below hb)); replace ST := Lib.hid (ST.out.call hb); clear hb)
      | (go_at_call 67; (with_reducible refine (TF0.out _).mono ?_); rintro e w' ⟨rfl, hb⟩; (try replace PB := Lib.hid (PB.out.below hb)); replace ST := Lib.hid (ST.out.call hb); clear hb)
      | (go_at_call 67; (with_reducible refine (TM0.out _).mono ?_); rintro e w' ⟨rfl, hb⟩; (try replace PB := Lib.hid (PB.out.below hb)); replace ST := Lib.hid (ST.out.call hb); clear hb)
      | (go_at_call 69; (with_reducible refine (TL.out _).mono ?_); rintro e w' ⟨rfl, hb⟩; (try replace PB := Lib.hid (PB.out.below hb)); replace ST := Lib.hid (ST.out.call hb); clear hb)
      | (go_at_call 43; (with_reducible refine (TI.out _ _ _ _).mono ?_); rintro e w' ⟨rfl, hb⟩; (try replace PB := Lib.hid (PB.out.below hb)); replace ST := Lib.hid (ST.out.call hb); clear hb)
      | ((with_reducible refine Step.gate_build (t := 53) rfl ?_); refine Step.freshSlice (cs := #[.int .i64 0, .int .i64 0, .int .i64 1, .int .i64 4, .int .i64 5, .int .i64 6, .int .i64 7]) (T := 3) (n := 7) (m := 7) rfl ?hr ?_; (case hr => first | (go_simp; done) | (go_simp; rfl)); intro g9 w1 b hg hb; have PB := Lib.hid (show Blk w1 g9 (Enc.ints ([0, 0, 1, 4, 5, 6, 7] : List Int)) _ from b); replace ST := Lib.hid (ST.out.call hb); clear b hb hg)
      | ((with_reducible refine Step.gate_build (t := 53) rfl ?_); refine Step.freshSlice (cs := #[.int .i64 0, .int .i64 1, .int .i64 0, .int .i64 4, .int .i64 12, .int .i64 8, .int .i64 16, .int .i64 20, .int .i64 24, .int .i64 28]) (T := 3) (n := 10) (m := 10) rfl ?hr ?_; (case hr => first | (go_simp; done) | (go_simp; rfl)); intro g9 w1 b hg hb; have PB := Lib.hid (show Blk w1 g9 (Enc.ints ([0, 1, 0, 4, 12, 8, 16, 20, 24, 28] : List Int)) _ from b); replace ST := Lib.hid (ST.out.call hb); clear b hb hg)
      | (go_at_call 68; (with_reducible refine (rpick_any (n := 7) PB.out ([0, 0, 1, 4, 5, 6, 7] : List Int) rfl rfl (by decide) _ HY.out).mono ?_); rintro e w' ⟨rfl, hb⟩; clear PB; replace ST := Lib.hid (ST.out.call hb); clear hb; rw [hbv])
      | (go_at_call 68; (with_reducible refine (rpick_any (n := 10) PB.out ([0, 1, 0, 4, 12, 8, 16, 20, 24, 28] : List Int) rfl rfl (by decide) _ HY.out).mono ?_); rintro e w' ⟨rfl, hb⟩; clear PB; replace ST := Lib.hid (ST.out.call hb); clear hb; rw [hav])
      | ((with_reducible refine one_region (id := 25) (fin := ?fin_11) ST.out ?hm_11 [(139, .int .u32 (S)), (140, .int .u32 (S * 4096)), (141, .int .u32 (bits .or .u32 (35) (S * 4096))), (142, .int .u32 (Q2)), (143, .int .u32 (bits .or .u32 (bits .or .u32 (35) (S * 4096)) (Q2))), (144, .int .u32 (Q3)), (145, .int .u32 (bits .or .u32 (bits .or .u32 (bits .or .u32 (35) (S * 4096)) (Q2)) (Q3))), (146, .pointer (some ⟨g1, 5, none⟩)), (147, .int .i64 (imm)), (148, .int .u32 (S0)), (149, .int .u32 (bits .or .u32 (bits .or .u32 (bits .or .u32 (bits .or .u32 (35) (S * 4096)) (Q2)) (Q3)) (S0))), (150, .pointer (some ⟨g1, 5, none⟩)), (151, .int .i64 (imm)), (152, .int .i64 (imm / 32)), (153, .int .u32 (S7)), (154, .int .u32 (bits .or .u32 (bits .or .u32 (bits .or .u32 (bits .or .u32 (bits .or .u32 (35) (S * 4096)) (Q2)) (Q3)) (S0)) (S7))), (2, .int .u32 (bits .or .u32 (bits .or .u32 (bits .or .u32 (bits .or .u32 (bits .or .u32 (35) (S * 4096)) (Q2)) (Q3)) (S0)) (S7)))] ?hord_11 ?hin_11 ?hfin_11 ?hdo_11 ?_); (case hm_11 => rfl); (case hord_11 => kernel_rfl); (case hin_11 => kernel_rfl); (case hfin_11 => (simp only [Reg.puts, Act.put, List.setIfInBounds_toArray, List.set_cons_zero, List.set_cons_succ]; try rfl)); (case hdo_11 => ((repeat' (first | exact stay1_nil | refine stay1_cons ?_ ?_)); all_goals (first | exact stay1_load rfl rfl rfl pl_int rfl rfl | exact stay1_load rfl rfl rfl pl_bool rfl rfl | exact stay1_call rfl rfl (fun X => by go_simp) (fun X => TS0.out X) rfl | exact stay1_call rfl rfl (fun X => by go_simp) (fun X => TS7.out X) rfl | exact stay1_slot rfl rfl (fun X => by first | (go_simp; done) | (go_simp; rfl))))); intro w' st_; clear ST; have ST := Lib.hid st_; clear st_)
      | ((with_reducible refine one_region (id := 28) (fin := ?fin_16) ST.out ?hm_16 [(160, .pointer (some ⟨g1, 1, none⟩)), (161, .int .i64 (fn)), (162, .int .u32 (A)), (163, .int .u32 (bits .or .u32 (27) (A))), (164, .int .u32 (Q1)), (165, .int .u32 (bits .or .u32 (bits .or .u32 (27) (A)) (Q1))), (166, .int .u32 (Q2)), (167, .int .u32 (bits .or .u32 (bits .or .u32 (bits .or .u32 (27) (A)) (Q1)) (Q2))), (168, .pointer (some ⟨g1, 5, none⟩)), (169, .int .i64 (imm)), (170, .int .u32 (I0)), (171, .int .u32 (bits .or .u32 (bits .or .u32 (bits .or .u32 (bits .or .u32 (27) (A)) (Q1)) (Q2)) (I0))), (2, .int .u32 (bits .or .u32 (bits .or .u32 (bits .or .u32 (bits .or .u32 (27) (A)) (Q1)) (Q2)) (I0)))] ?hord_16 ?hin_16 ?hfin_16 ?hdo_16 ?_); (case hm_16 => rfl); (case hord_16 => kernel_rfl); (case hin_16 => kernel_rfl); (case hfin_16 => (simp only [Reg.puts, Act.put, List.setIfInBounds_toArray, List.set_cons_zero, List.set_cons_succ]; try rfl)); (case hdo_16 => ((repeat' (first | exact stay1_nil | refine stay1_cons ?_ ?_)); all_goals (first | exact stay1_load rfl rfl rfl pl_int rfl rfl | exact stay1_load rfl rfl rfl pl_bool rfl rfl | exact stay1_call rfl rfl (fun X => by go_simp) (fun X => TL.out X) rfl | exact stay1_call rfl rfl (fun X => by go_simp) (fun X => TI0.out X) rfl | exact stay1_slot rfl rfl (fun X => by first | (go_simp; done) | (go_simp; rfl))))); intro w' st_; clear ST; have ST := Lib.hid st_; clear st_)
      | ((with_reducible refine one_region (id := 29) (fin := ?fin_17) ST.out ?hm_17 [(172, .pointer (some ⟨g1, 1, none⟩)), (173, .int .i64 (fn)), (174, .int .u32 (A)), (175, .int .u32 (bits .or .u32 (19) (A))), (176, .int .u32 (Q1)), (177, .int .u32 (bits .or .u32 (bits .or .u32 (19) (A)) (Q1))), (178, .int .u32 (Q2)), (179, .int .u32 (bits .or .u32 (bits .or .u32 (bits .or .u32 (19) (A)) (Q1)) (Q2))), (180, .pointer (some ⟨g1, 5, none⟩)), (181, .int .i64 (imm)), (182, .int .u32 (I0)), (183, .int .u32 (bits .or .u32 (bits .or .u32 (bits .or .u32 (bits .or .u32 (19) (A)) (Q1)) (Q2)) (I0))), (2, .int .u32 (bits .or .u32 (bits .or .u32 (bits .or .u32 (bits .or .u32 (19) (A)) (Q1)) (Q2)) (I0)))] ?hord_17 ?hin_17 ?hfin_17 ?hdo_17 ?_); (case hm_17 => rfl); (case hord_17 => kernel_rfl); (case hin_17 => kernel_rfl); (case hfin_17 => (simp only [Reg.puts, Act.put, List.setIfInBounds_toArray, List.set_cons_zero, List.set_cons_succ]; try rfl)); (case hdo_17 => ((repeat' (first | exact stay1_nil | refine stay1_cons ?_ ?_)); all_goals (first | exact stay1_load rfl rfl rfl pl_int rfl rfl | exact stay1_load rfl rfl rfl pl_bool rfl rfl | exact stay1_call rfl rfl (fun X => by go_simp) (fun X => TL.out X) rfl | exact stay1_call rfl rfl (fun X => by go_simp) (fun X => TI0.out X) rfl | exact stay1_slot rfl rfl (fun X => by first | (go_simp; done) | (go_simp; rfl))))); intro w' st_; clear ST; have ST := Lib.hid st_; clear st_)
      | ((with_reducible refine one_region (id := 47) (fin := ?fin_18) ST.out ?hm_18 [(219, .pointer (some ⟨g1, 1, none⟩)), (220, .int .i64 (fn)), (221, .int .u32 (C0)), (222, .int .u32 (bits .or .u32 (115) (C0))), (223, .int .u32 (Q1)), (224, .int .u32 (bits .or .u32 (bits .or .u32 (115) (C0)) (Q1))), (225, .int .u32 (Q2)), (226, .int .u32 (bits .or .u32 (bits .or .u32 (bits .or .u32 (115) (C0)) (Q1)) (Q2))), (227, .pointer (some ⟨g1, 5, none⟩)), (228, .int .i64 (imm)), (229, .int .u32 (I0)), (230, .int .u32 (bits .or .u32 (bits .or .u32 (bits .or .u32 (bits .or .u32 (115) (C0)) (Q1)) (Q2)) (I0))), (2, .int .u32 (bits .or .u32 (bits .or .u32 (bits .or .u32 (bits .or .u32 (115) (C0)) (Q1)) (Q2)) (I0)))] ?hord_18 ?hin_18 ?hfin_18 ?hdo_18 ?_); (case hm_18 => rfl); (case hord_18 => kernel_rfl); (case hin_18 => kernel_rfl); (case hfin_18 => (simp only [Reg.puts, Act.put, List.setIfInBounds_toArray, List.set_cons_zero, List.set_cons_succ]; try rfl)); (case hdo_18 => ((repeat' (first | exact stay1_nil | refine stay1_cons ?_ ?_)); all_goals (first | exact stay1_load rfl rfl rfl pl_int rfl rfl | exact stay1_load rfl rfl rfl pl_bool rfl rfl | exact stay1_call rfl rfl (fun X => by go_simp) (fun X => TC0.out X) rfl | exact stay1_call rfl rfl (fun X => by go_simp) (fun X => TI0.out X) rfl | exact stay1_slot rfl rfl (fun X => by first | (go_simp; done) | (go_simp; rfl))))); intro w' st_; clear ST; have ST := Lib.hid st_; clear st_)
      | ((with_reducible refine one_region (id := 49) (fin := ?fin_19) ST.out ?hm_19 [(233, .pointer (some ⟨g1, 1, none⟩)), (234, .int .i64 (fn)), (235, .int .u32 (C0)), (236, .int .u32 (bits .or .u32 (16499) (C0))), (237, .int .u32 (Q1)), (238, .int .u32 (bits .or .u32 (bits .or .u32 (16499) (C0)) (Q1))), (239, .int .u32 (Q2)), (240, .int .u32 (bits .or .u32 (bits .or .u32 (bits .or .u32 (16499) (C0)) (Q1)) (Q2))), (241, .pointer (some ⟨g1, 5, none⟩)), (242, .int .i64 (imm)), (243, .int .u32 (I0)), (244, .int .u32 (bits .or .u32 (bits .or .u32 (bits .or .u32 (bits .or .u32 (16499) (C0)) (Q1)) (Q2)) (I0))), (2, .int .u32 (bits .or .u32 (bits .or .u32 (bits .or .u32 (bits .or .u32 (16499) (C0)) (Q1)) (Q2)) (I0)))] ?hord_19 ?hin_19 ?hfin_19 ?hdo_19 ?_); (case hm_19 => rfl); (case hord_19 => kernel_rfl); (case hin_19 => kernel_rfl); (case hfin_19 => (simp only [Reg.puts, Act.put, List.setIfInBounds_toArray, List.set_cons_zero, List.set_cons_succ]; try rfl)); (case hdo_19 => ((repeat' (first | exact stay1_nil | refine stay1_cons ?_ ?_)); all_goals (first | exact stay1_load rfl rfl rfl pl_int rfl rfl | exact stay1_load rfl rfl rfl pl_bool rfl rfl | exact stay1_call rfl rfl (fun X => by go_simp) (fun X => TC0.out X) rfl | exact stay1_call rfl rfl (fun X => by go_simp) (fun X => TI0.out X) rfl | exact stay1_slot rfl rfl (fun X => by first | (go_simp; done) | (go_simp; rfl))))); intro w' st_; clear ST; have ST := Lib.hid st_; clear st_)
      | ((with_reducible refine Step.gate_store (t := 3) rfl ?_); refine Step.store ST.out.one rfl rfl rfl rfl rfl pl_int rfl rfl ?_; intro w3 nb m; replace ST := Lib.hid (ST.out.set1 nb m); clear nb m)
      | ((with_reducible refine Step.gate_store (t := 4) rfl ?_); refine Step.store ST.out.one rfl rfl rfl rfl rfl pl_bool rfl rfl ?_; intro w3 nb m; replace ST := Lib.hid (ST.out.set1 nb m); clear nb m)
      | ((with_reducible refine Step.gate_store (t := 44) rfl ?_); refine Step.storeAll ST.out.one rfl rfl rfl rfl rfl size_inst rfl rfl ?_; intro w3 nb m; replace ST := Lib.hid (ST.out.set1 nb m); clear nb m)
      | ((with_reducible refine Step.gate_load (t := 3) rfl ?_); refine Step.load ST.out.one rfl rfl rfl pl_int rfl ?_)
      | ((with_reducible refine Step.gate_load (t := 4) rfl ?_); refine Step.load ST.out.one rfl rfl rfl pl_bool rfl ?_)
      | ((with_reducible refine Step.gate_load (t := 44) rfl ?_); refine Step.loadAll ST.out.one rfl rfl rfl Tryz.underlying44 rfl size_inst ?_))
    go_ret
    exact ⟨rfl, ST.out.below⟩)
end Go.Proofs.YthkodjkkcgdmfaaGreat.Enc
end
section
namespace Go.Proofs.YthkodjkkcgdmfaaGreat.Enc
open Go Go.RowKit Go.Proofs.YthkodjkkcgdmfaaGreat.Step
set_option linter.unusedVariables false
set_option linter.unusedSimpArgs false
set_option maxRecDepth 100000
def fvL : List Int := ([1, 0, 4, 12, 8, 16, 20, 24, 28] : List Int)
/-- The atomics over their fields. -/
def atE (sz f rd rs1 rs2 : Int) : Option Ins := if (atF f rs2).2.2 then some ⟨(atF f rs2).1, (atF f rs2).2.1, rd, rs1, rs2, 0, sz, false⟩ else none
theorem fv_hit : ∀ k : Fin 9, ∀ rs2 : Int, atF (fvL.getD k.val 0) rs2 = (17, (k.val : Int) + 1, true) := by
  intro k rs2
  obtain ⟨k, hk⟩ := k
  have : k = 0 ∨ k = 1 ∨ k = 2 ∨ k = 3 ∨ k = 4 ∨ k = 5 ∨ k = 6 ∨ k = 7 ∨ k = 8 := by omega
  rcases this with h | h | h | h | h | h | h | h | h <;> subst h <;> rfl
theorem fv_miss (f rs2 : Int) (hf : 0 ≤ f ∧ f < 32) (h2 : f = 2 → rs2 ≠ 0) (h3 : f ≠ 3) (h : ∀ k, k < 9 → fvL.getD k 0 ≠ f) : (atF f rs2).2.2 = false := by
  have e0 := h 0 (by decide)
  have e1 := h 1 (by decide)
  have e2 := h 2 (by decide)
  have e3 := h 3 (by decide)
  have e4 := h 4 (by decide)
  have e5 := h 5 (by decide)
  have e6 := h 6 (by decide)
  have e7 := h 7 (by decide)
  have e8 := h 8 (by decide)
  simp only [fvL, List.getD_cons_zero, List.getD_cons_succ] at e0 e1 e2 e3 e4 e5 e6 e7 e8
  unfold atF
  by_cases h20 : f = 2
  · rw [if_pos h20]
    exact beq_eq_false_iff_ne.2 (h2 h20)
  · rw [if_neg h20, if_neg h3, if_neg (fun h => e0 h.symm), if_neg (by omega)]
set_option maxHeartbeats 2000000 in
theorem ratomic_3 (a rd rs1 rs2 : Int) (ha : W32 a) (w : World) : Calls Tryz.prog 77 #[.int .u32 a, .int .i64 3, .int .i64 rd, .int .i64 rs1, .int .i64 rs2] w fun e w' => e = .returned (told (atE 8 (fd a 31 27) rd rs1 rs2)) ∧ Below w.heap.size w w' := by
  have T0 := Lib.hid (fun w => calls_below (rbits_any a 31 27 31 27 ha rfl rfl (by decide) (by decide) w))
  have bf := fd_lit (a := a) (h := 31) (l := 27) (n := 32) rfl
  generalize fd a 31 27 = f at *
  by_cases h3 : f = 3
  · subst h3
    rw [show atE 8 3 rd rs1 rs2 = (some ⟨16, 0, rd, rs1, rs2, 0, 8, false⟩ : Option Ins) from by simp [atE, atF]]
    clear bf
    go_enter Tryz.func77, Tryz.ntmps77
    go_wp2_with (first
      | (go_at_call 70; (with_reducible refine (T0.out _).mono ?_); rintro e w' ⟨rfl, hb⟩; (try (have pb_ := Lib.hid (PB.out.below hb); clear PB; have PB := pb_)); have st_ := Lib.hid (ST.out.call hb); clear ST hb; have ST := st_)
      | ((with_reducible refine Step.gate_alloc (t := 44) rfl ?_); refine Step.freshAlloc rfl rfl (alloc_agg zero_inst) ?_; intro g1 w1 b hg hb; have ST := Lib.hid (S1.made b hg hb); clear b hg hb)
      | ((with_reducible refine Step.gate_build (t := 53) rfl ?_); refine Step.freshSlice (cs := #[.int .i64 1, .int .i64 0, .int .i64 4, .int .i64 12, .int .i64 8, .int .i64 16, .int .i64 20, .int .i64 24, .int .i64 28]) (T := 3) (n := 9) (m := 9) rfl ?hr ?_; (case hr => first | (go_simp; done) | (go_simp; rfl)); intro g9 w1 b hg hb; have PB := Lib.hid (show Blk w1 g9 (Enc.ints ([1, 0, 4, 12, 8, 16, 20, 24, 28] : List Int)) _ from b); have st_ := Lib.hid (ST.out.call hb); clear ST b hb hg; have ST := st_)
      | ((with_reducible refine Step.gate_store (t := 3) rfl ?_); refine Step.store ST.out.one rfl rfl rfl rfl rfl pl_int rfl rfl ?_; intro w3 nb m; have st_ := Lib.hid (ST.out.set1 nb m); clear ST nb m; have ST := st_)
      | ((with_reducible refine Step.gate_store (t := 4) rfl ?_); refine Step.store ST.out.one rfl rfl rfl rfl rfl pl_bool rfl rfl ?_; intro w3 nb m; have st_ := Lib.hid (ST.out.set1 nb m); clear ST nb m; have ST := st_)
      | ((with_reducible refine Step.gate_store (t := 44) rfl ?_); refine Step.storeAll ST.out.one rfl rfl rfl rfl rfl size_inst rfl rfl ?_; intro w3 nb m; have st_ := Lib.hid (ST.out.set1 nb m); clear ST nb m; have ST := st_)
      | ((with_reducible refine Step.gate_load (t := 3) rfl ?_); refine Step.load ST.out.one rfl rfl rfl pl_int rfl ?_)
      | ((with_reducible refine Step.gate_load (t := 4) rfl ?_); refine Step.load ST.out.one rfl rfl rfl pl_bool rfl ?_)
      | ((with_reducible refine Step.gate_load (t := 44) rfl ?_); refine Step.loadAll ST.out.one rfl rfl rfl Tryz.underlying44 rfl size_inst ?_))
    refine bodyPost_ret (results_row_tmp rfl _ _ g1 _ _ _ rfl ST.out.one Tryz.underlying44 rfl size_inst) rfl ⟨rfl, ST.out.below⟩
  by_cases h2 : f = 2 ∧ rs2 = 0
  · obtain ⟨h2, h0⟩ := h2
    subst h2 h0
    rw [show atE 8 2 rd rs1 0 = (some ⟨15, 0, rd, rs1, 0, 0, 8, false⟩ : Option Ins) from by simp [atE, atF]]
    clear bf
    go_enter Tryz.func77, Tryz.ntmps77
    go_wp2_with (first
      | (go_at_call 70; (with_reducible refine (T0.out _).mono ?_); rintro e w' ⟨rfl, hb⟩; (try (have pb_ := Lib.hid (PB.out.below hb); clear PB; have PB := pb_)); have st_ := Lib.hid (ST.out.call hb); clear ST hb; have ST := st_)
      | ((with_reducible refine Step.gate_alloc (t := 44) rfl ?_); refine Step.freshAlloc rfl rfl (alloc_agg zero_inst) ?_; intro g1 w1 b hg hb; have ST := Lib.hid (S1.made b hg hb); clear b hg hb)
      | ((with_reducible refine Step.gate_build (t := 53) rfl ?_); refine Step.freshSlice (cs := #[.int .i64 1, .int .i64 0, .int .i64 4, .int .i64 12, .int .i64 8, .int .i64 16, .int .i64 20, .int .i64 24, .int .i64 28]) (T := 3) (n := 9) (m := 9) rfl ?hr ?_; (case hr => first | (go_simp; done) | (go_simp; rfl)); intro g9 w1 b hg hb; have PB := Lib.hid (show Blk w1 g9 (Enc.ints ([1, 0, 4, 12, 8, 16, 20, 24, 28] : List Int)) _ from b); have st_ := Lib.hid (ST.out.call hb); clear ST b hb hg; have ST := st_)
      | ((with_reducible refine Step.gate_store (t := 3) rfl ?_); refine Step.store ST.out.one rfl rfl rfl rfl rfl pl_int rfl rfl ?_; intro w3 nb m; have st_ := Lib.hid (ST.out.set1 nb m); clear ST nb m; have ST := st_)
      | ((with_reducible refine Step.gate_store (t := 4) rfl ?_); refine Step.store ST.out.one rfl rfl rfl rfl rfl pl_bool rfl rfl ?_; intro w3 nb m; have st_ := Lib.hid (ST.out.set1 nb m); clear ST nb m; have ST := st_)
      | ((with_reducible refine Step.gate_store (t := 44) rfl ?_); refine Step.storeAll ST.out.one rfl rfl rfl rfl rfl size_inst rfl rfl ?_; intro w3 nb m; have st_ := Lib.hid (ST.out.set1 nb m); clear ST nb m; have ST := st_)
      | ((with_reducible refine Step.gate_load (t := 3) rfl ?_); refine Step.load ST.out.one rfl rfl rfl pl_int rfl ?_)
      | ((with_reducible refine Step.gate_load (t := 4) rfl ?_); refine Step.load ST.out.one rfl rfl rfl pl_bool rfl ?_)
      | ((with_reducible refine Step.gate_load (t := 44) rfl ?_); refine Step.loadAll ST.out.one rfl rfl rfl Tryz.underlying44 rfl size_inst ?_))
    refine bodyPost_ret (results_row_tmp rfl _ _ g1 _ _ _ rfl ST.out.one Tryz.underlying44 rfl size_inst) rfl ⟨rfl, ST.out.below⟩
  have h2' : f = 2 → rs2 ≠ 0 := fun h h' => h2 ⟨h, h'⟩
  have c3 : (f == 3) = false := beq_eq_false_iff_ne.2 h3
  have key : ∀ b : Bool, (f == 2) = b → (b = true → rs2 ≠ 0) := fun b h hb => h2' (by subst hb; exact eq_of_beq h)
  by_cases h20 : f = 2
  · have c2 : (f == 2) = true := beq_iff_eq.2 h20
    have c0 : (rs2 == 0) = false := beq_eq_false_iff_ne.2 (h2' h20)
    clear key
    go_enter Tryz.func77, Tryz.ntmps77
    go_wp2_with (first
      | (go_at_call 70; (with_reducible refine (T0.out _).mono ?_); rintro e w' ⟨rfl, hb⟩; (try (have pb_ := Lib.hid (PB.out.below hb); clear PB; have PB := pb_)); have st_ := Lib.hid (ST.out.call hb); clear ST hb; have ST := st_)
      | ((with_reducible refine Step.gate_alloc (t := 44) rfl ?_); refine Step.freshAlloc rfl rfl (alloc_agg zero_inst) ?_; intro g1 w1 b hg hb; have ST := Lib.hid (S1.made b hg hb); clear b hg hb)
      | ((with_reducible refine Step.gate_build (t := 53) rfl ?_); refine Step.freshSlice (cs := #[.int .i64 1, .int .i64 0, .int .i64 4, .int .i64 12, .int .i64 8, .int .i64 16, .int .i64 20, .int .i64 24, .int .i64 28]) (T := 3) (n := 9) (m := 9) rfl ?hr ?_; (case hr => first | (go_simp; done) | (go_simp; rfl)); intro g9 w1 b hg hb; have PB := Lib.hid (show Blk w1 g9 (Enc.ints ([1, 0, 4, 12, 8, 16, 20, 24, 28] : List Int)) _ from b); have st_ := Lib.hid (ST.out.call hb); clear ST b hb hg; have ST := st_)
      | ((with_reducible refine Step.gate_store (t := 3) rfl ?_); refine Step.store ST.out.one rfl rfl rfl rfl rfl pl_int rfl rfl ?_; intro w3 nb m; have st_ := Lib.hid (ST.out.set1 nb m); clear ST nb m; have ST := st_)
      | ((with_reducible refine Step.gate_store (t := 4) rfl ?_); refine Step.store ST.out.one rfl rfl rfl rfl rfl pl_bool rfl rfl ?_; intro w3 nb m; have st_ := Lib.hid (ST.out.set1 nb m); clear ST nb m; have ST := st_)
      | ((with_reducible refine Step.gate_store (t := 44) rfl ?_); refine Step.storeAll ST.out.one rfl rfl rfl rfl rfl size_inst rfl rfl ?_; intro w3 nb m; have st_ := Lib.hid (ST.out.set1 nb m); clear ST nb m; have ST := st_)
      | ((with_reducible refine Step.gate_load (t := 3) rfl ?_); refine Step.load ST.out.one rfl rfl rfl pl_int rfl ?_)
      | ((with_reducible refine Step.gate_load (t := 4) rfl ?_); refine Step.load ST.out.one rfl rfl rfl pl_bool rfl ?_)
      | ((with_reducible refine Step.gate_load (t := 44) rfl ?_); refine Step.loadAll ST.out.one rfl rfl rfl Tryz.underlying44 rfl size_inst ?_))
    go_loopw [15] (fun i w_ => ∃ k : Nat, k ≤ 9 ∧ i = .int .i64 k ∧ S1 w w_ 44 g1 #[.int .i64 0, .int .i64 0, .int .i64 0, .int .i64 0, .int .i64 0, .int .i64 0, .int .i64 0, .bool false] ∧ Blk w_ g9 (Enc.ints fvL) 3 ∧ ∀ j, j < k → fvL.getD j 0 ≠ f) (fun i _ => (9 - intOf i).toNat)
    case atStart => exact ⟨0, Nat.zero_le _, rfl, ST.out, PB.out, fun j h => absurd h (Nat.not_lt_zero j)⟩
    case round =>
      clear ST PB
      obtain ⟨k, hk, rfl, hS, hP, hm⟩ := hrel
      have ST := Lib.hid hS
      have PB := Lib.hid hP
      have HM := Lib.hid hm
      clear hS hP hm
      by_cases hlt : k < 9
      · have hc := (PB.out.cell k).trans (ints_at fvL k hlt)
        by_cases hv : fvL.getD k 0 = f
        · have hd : atE 8 f rd rs1 rs2 = some ⟨17, (k : Int) + 1, rd, rs1, rs2, 0, 8, false⟩ := by subst hv; unfold atE; rw [fv_hit ⟨k, hlt⟩ rs2]; rfl
          rw [hv] at hc
          clear HM h2' h2 h3 bf hv
          go_wp2_with (first
              | ((with_reducible refine Step.gate_store (t := 3) rfl ?_); refine Step.store ST.out.one rfl rfl rfl rfl rfl pl_int rfl rfl ?_; intro w3 nb m; have st_ := Lib.hid (ST.out.set1 nb m); clear ST nb m; have ST := st_)
              | ((with_reducible refine Step.gate_store (t := 4) rfl ?_); refine Step.store ST.out.one rfl rfl rfl rfl rfl pl_bool rfl rfl ?_; intro w3 nb m; have st_ := Lib.hid (ST.out.set1 nb m); clear ST nb m; have ST := st_)
              | ((with_reducible refine Step.gate_store (t := 44) rfl ?_); refine Step.storeAll ST.out.one rfl rfl rfl rfl rfl size_inst rfl rfl ?_; intro w3 nb m; have st_ := Lib.hid (ST.out.set1 nb m); clear ST nb m; have ST := st_)
              | ((with_reducible refine Step.gate_load (t := 3) rfl ?_); refine Step.load ST.out.one rfl rfl rfl pl_int rfl ?_)
              | ((with_reducible refine Step.gate_load (t := 4) rfl ?_); refine Step.load ST.out.one rfl rfl rfl pl_bool rfl ?_)
              | ((with_reducible refine Step.gate_load (t := 44) rfl ?_); refine Step.loadAll ST.out.one rfl rfl rfl Tryz.underlying44 rfl size_inst ?_))
          refine bodyPost_ret (results_row_tmp rfl _ _ g1 _ _ _ rfl ST.out.one Tryz.underlying44 rfl size_inst) rfl ⟨by rw [hd]; rfl, ST.out.below⟩
        · obtain ⟨v, hv'⟩ : ∃ v, fvL.getD k 0 = v := ⟨_, rfl⟩
          rw [hv'] at hc hv
          have cv : (v == f) = false := beq_eq_false_iff_ne.2 hv
          go_wp2
          refine ⟨⟨k + 1, by omega, by go_num, ST.out, PB.out, fun j hj => ?_⟩, by simp [intOf]; omega⟩
          by_cases e : j = k
          · subst e; rw [hv']; exact hv
          · exact HM.out j (by omega)
      · obtain rfl : k = 9 := by omega
        have hd : atE 8 f rd rs1 rs2 = none := by unfold atE; rw [fv_miss f rs2 bf h2' h3 HM.out]; rfl
        clear HM h2' h2 h3 bf
        go_wp2_with (first
            | ((with_reducible refine Step.gate_store (t := 3) rfl ?_); refine Step.store ST.out.one rfl rfl rfl rfl rfl pl_int rfl rfl ?_; intro w3 nb m; have st_ := Lib.hid (ST.out.set1 nb m); clear ST nb m; have ST := st_)
            | ((with_reducible refine Step.gate_store (t := 4) rfl ?_); refine Step.store ST.out.one rfl rfl rfl rfl rfl pl_bool rfl rfl ?_; intro w3 nb m; have st_ := Lib.hid (ST.out.set1 nb m); clear ST nb m; have ST := st_)
            | ((with_reducible refine Step.gate_store (t := 44) rfl ?_); refine Step.storeAll ST.out.one rfl rfl rfl rfl rfl size_inst rfl rfl ?_; intro w3 nb m; have st_ := Lib.hid (ST.out.set1 nb m); clear ST nb m; have ST := st_)
            | ((with_reducible refine Step.gate_load (t := 3) rfl ?_); refine Step.load ST.out.one rfl rfl rfl pl_int rfl ?_)
            | ((with_reducible refine Step.gate_load (t := 4) rfl ?_); refine Step.load ST.out.one rfl rfl rfl pl_bool rfl ?_)
            | ((with_reducible refine Step.gate_load (t := 44) rfl ?_); refine Step.loadAll ST.out.one rfl rfl rfl Tryz.underlying44 rfl size_inst ?_))
        refine bodyPost_ret (results_row_tmp rfl _ _ g1 _ _ _ rfl ST.out.one Tryz.underlying44 rfl size_inst) rfl ⟨by rw [hd]; rfl, ST.out.below⟩
  have c2 : (f == 2) = false := beq_eq_false_iff_ne.2 h20
  clear key
  go_enter Tryz.func77, Tryz.ntmps77
  go_wp2_with (first
    | (go_at_call 70; (with_reducible refine (T0.out _).mono ?_); rintro e w' ⟨rfl, hb⟩; (try (have pb_ := Lib.hid (PB.out.below hb); clear PB; have PB := pb_)); have st_ := Lib.hid (ST.out.call hb); clear ST hb; have ST := st_)
    | ((with_reducible refine Step.gate_alloc (t := 44) rfl ?_); refine Step.freshAlloc rfl rfl (alloc_agg zero_inst) ?_; intro g1 w1 b hg hb; have ST := Lib.hid (S1.made b hg hb); clear b hg hb)
    | ((with_reducible refine Step.gate_build (t := 53) rfl ?_); refine Step.freshSlice (cs := #[.int .i64 1, .int .i64 0, .int .i64 4, .int .i64 12, .int .i64 8, .int .i64 16, .int .i64 20, .int .i64 24, .int .i64 28]) (T := 3) (n := 9) (m := 9) rfl ?hr ?_; (case hr => first | (go_simp; done) | (go_simp; rfl)); intro g9 w1 b hg hb; have PB := Lib.hid (show Blk w1 g9 (Enc.ints ([1, 0, 4, 12, 8, 16, 20, 24, 28] : List Int)) _ from b); have st_ := Lib.hid (ST.out.call hb); clear ST b hb hg; have ST := st_)
    | ((with_reducible refine Step.gate_store (t := 3) rfl ?_); refine Step.store ST.out.one rfl rfl rfl rfl rfl pl_int rfl rfl ?_; intro w3 nb m; have st_ := Lib.hid (ST.out.set1 nb m); clear ST nb m; have ST := st_)
    | ((with_reducible refine Step.gate_store (t := 4) rfl ?_); refine Step.store ST.out.one rfl rfl rfl rfl rfl pl_bool rfl rfl ?_; intro w3 nb m; have st_ := Lib.hid (ST.out.set1 nb m); clear ST nb m; have ST := st_)
    | ((with_reducible refine Step.gate_store (t := 44) rfl ?_); refine Step.storeAll ST.out.one rfl rfl rfl rfl rfl size_inst rfl rfl ?_; intro w3 nb m; have st_ := Lib.hid (ST.out.set1 nb m); clear ST nb m; have ST := st_)
    | ((with_reducible refine Step.gate_load (t := 3) rfl ?_); refine Step.load ST.out.one rfl rfl rfl pl_int rfl ?_)
    | ((with_reducible refine Step.gate_load (t := 4) rfl ?_); refine Step.load ST.out.one rfl rfl rfl pl_bool rfl ?_)
    | ((with_reducible refine Step.gate_load (t := 44) rfl ?_); refine Step.loadAll ST.out.one rfl rfl rfl Tryz.underlying44 rfl size_inst ?_))
  go_loopw [15] (fun i w_ => ∃ k : Nat, k ≤ 9 ∧ i = .int .i64 k ∧ S1 w w_ 44 g1 #[.int .i64 0, .int .i64 0, .int .i64 0, .int .i64 0, .int .i64 0, .int .i64 0, .int .i64 0, .bool false] ∧ Blk w_ g9 (Enc.ints fvL) 3 ∧ ∀ j, j < k → fvL.getD j 0 ≠ f) (fun i _ => (9 - intOf i).toNat)
  case atStart => exact ⟨0, Nat.zero_le _, rfl, ST.out, PB.out, fun j h => absurd h (Nat.not_lt_zero j)⟩
  case round =>
    clear ST PB
    obtain ⟨k, hk, rfl, hS, hP, hm⟩ := hrel
    have ST := Lib.hid hS
    have PB := Lib.hid hP
    have HM := Lib.hid hm
    clear hS hP hm
    by_cases hlt : k < 9
    · have hc := (PB.out.cell k).trans (ints_at fvL k hlt)
      by_cases hv : fvL.getD k 0 = f
      · have hd : atE 8 f rd rs1 rs2 = some ⟨17, (k : Int) + 1, rd, rs1, rs2, 0, 8, false⟩ := by subst hv; unfold atE; rw [fv_hit ⟨k, hlt⟩ rs2]; rfl
        rw [hv] at hc
        clear HM h2' h2 h3 bf hv
        go_wp2_with (first
            | ((with_reducible refine Step.gate_store (t := 3) rfl ?_); refine Step.store ST.out.one rfl rfl rfl rfl rfl pl_int rfl rfl ?_; intro w3 nb m; have st_ := Lib.hid (ST.out.set1 nb m); clear ST nb m; have ST := st_)
            | ((with_reducible refine Step.gate_store (t := 4) rfl ?_); refine Step.store ST.out.one rfl rfl rfl rfl rfl pl_bool rfl rfl ?_; intro w3 nb m; have st_ := Lib.hid (ST.out.set1 nb m); clear ST nb m; have ST := st_)
            | ((with_reducible refine Step.gate_store (t := 44) rfl ?_); refine Step.storeAll ST.out.one rfl rfl rfl rfl rfl size_inst rfl rfl ?_; intro w3 nb m; have st_ := Lib.hid (ST.out.set1 nb m); clear ST nb m; have ST := st_)
            | ((with_reducible refine Step.gate_load (t := 3) rfl ?_); refine Step.load ST.out.one rfl rfl rfl pl_int rfl ?_)
            | ((with_reducible refine Step.gate_load (t := 4) rfl ?_); refine Step.load ST.out.one rfl rfl rfl pl_bool rfl ?_)
            | ((with_reducible refine Step.gate_load (t := 44) rfl ?_); refine Step.loadAll ST.out.one rfl rfl rfl Tryz.underlying44 rfl size_inst ?_))
        refine bodyPost_ret (results_row_tmp rfl _ _ g1 _ _ _ rfl ST.out.one Tryz.underlying44 rfl size_inst) rfl ⟨by rw [hd]; rfl, ST.out.below⟩
      · obtain ⟨v, hv'⟩ : ∃ v, fvL.getD k 0 = v := ⟨_, rfl⟩
        rw [hv'] at hc hv
        have cv : (v == f) = false := beq_eq_false_iff_ne.2 hv
        go_wp2
        refine ⟨⟨k + 1, by omega, by go_num, ST.out, PB.out, fun j hj => ?_⟩, by simp [intOf]; omega⟩
        by_cases e : j = k
        · subst e; rw [hv']; exact hv
        · exact HM.out j (by omega)
    · obtain rfl : k = 9 := by omega
      have hd : atE 8 f rd rs1 rs2 = none := by unfold atE; rw [fv_miss f rs2 bf h2' h3 HM.out]; rfl
      clear HM h2' h2 h3 bf
      go_wp2_with (first
          | ((with_reducible refine Step.gate_store (t := 3) rfl ?_); refine Step.store ST.out.one rfl rfl rfl rfl rfl pl_int rfl rfl ?_; intro w3 nb m; have st_ := Lib.hid (ST.out.set1 nb m); clear ST nb m; have ST := st_)
          | ((with_reducible refine Step.gate_store (t := 4) rfl ?_); refine Step.store ST.out.one rfl rfl rfl rfl rfl pl_bool rfl rfl ?_; intro w3 nb m; have st_ := Lib.hid (ST.out.set1 nb m); clear ST nb m; have ST := st_)
          | ((with_reducible refine Step.gate_store (t := 44) rfl ?_); refine Step.storeAll ST.out.one rfl rfl rfl rfl rfl size_inst rfl rfl ?_; intro w3 nb m; have st_ := Lib.hid (ST.out.set1 nb m); clear ST nb m; have ST := st_)
          | ((with_reducible refine Step.gate_load (t := 3) rfl ?_); refine Step.load ST.out.one rfl rfl rfl pl_int rfl ?_)
          | ((with_reducible refine Step.gate_load (t := 4) rfl ?_); refine Step.load ST.out.one rfl rfl rfl pl_bool rfl ?_)
          | ((with_reducible refine Step.gate_load (t := 44) rfl ?_); refine Step.loadAll ST.out.one rfl rfl rfl Tryz.underlying44 rfl size_inst ?_))
      refine bodyPost_ret (results_row_tmp rfl _ _ g1 _ _ _ rfl ST.out.one Tryz.underlying44 rfl size_inst) rfl ⟨by rw [hd]; rfl, ST.out.below⟩
end Go.Proofs.YthkodjkkcgdmfaaGreat.Enc
end
section
namespace Go.Proofs.YthkodjkkcgdmfaaGreat.Enc
open Go Go.RowKit Go.Proofs.YthkodjkkcgdmfaaGreat.Step
set_option linter.unusedVariables false
set_option linter.unusedSimpArgs false
set_option maxRecDepth 100000
set_option maxHeartbeats 8000000 in
theorem rdec_3 (a : Int) (ha : W32 a) (hop : fd a 6 0 = 3) (w : World) : Calls Tryz.prog 45 #[.int .u32 a] w fun e w' => e = .returned (told (decOp 3 a)) ∧ Below w.heap.size w w' := by
  have T0 := Lib.hid (fun w => calls_below (rbits_any a 14 12 14 12 ha rfl rfl (by decide) (by decide) w))
  have T1 := Lib.hid (fun w => calls_below (rbits_any a 31 25 31 25 ha rfl rfl (by decide) (by decide) w))
  have T2 := Lib.hid (fun w => calls_below (rbits_any a 11 7 11 7 ha rfl rfl (by decide) (by decide) w))
  have T3 := Lib.hid (fun w => calls_below (rbits_any a 19 15 19 15 ha rfl rfl (by decide) (by decide) w))
  have T4 := Lib.hid (fun w => calls_below (rbits_any a 24 20 24 20 ha rfl rfl (by decide) (by decide) w))
  have T5 := Lib.hid (fun w => calls_below (rbits_any a 31 26 31 26 ha rfl rfl (by decide) (by decide) w))
  have T6 := Lib.hid (fun w => calls_below (rbits_any a 25 20 25 20 ha rfl rfl (by decide) (by decide) w))
  have TO := Lib.hid (fun w => calls_below (rbits_any a 6 0 6 0 ha rfl rfl (by decide) (by decide) w))
  have HX := Lib.hid (fd_lit (a := a) (h := 14) (l := 12) (n := 8) rfl)
  rw [hop] at TO
  clear hop
  have TM := Lib.hid (fun w => calls_below (ri_any a ha w))
  rw [show decOp 3 a = (if (fd a 14 12) < 7 then some ⟨6, 0, (fd a 11 7), (fd a 19 15), 0, (immI a), pk ldL (fd a 14 12), (decide ((fd a 14 12) < 4))⟩ else none : Option Ins) from by simp [decOp]]
  generalize immI a = m at *
  generalize fd a 14 12 = x at *
  generalize fd a 31 25 = s at *
  generalize fd a 11 7 = rd at *
  generalize fd a 19 15 = rs1 at *
  generalize fd a 24 20 = rs2 at *
  generalize fd a 31 26 = hi at *
  generalize fd a 25 20 = sh at *
  obtain ⟨E_, hEq⟩ : ∃ E_, (if x < 7 then some ⟨6, 0, rd, rs1, 0, m, pk ldL x, (decide (x < 4))⟩ else none : Option Ins) = E_ := ⟨_, rfl⟩
  rw [hEq]
  have hd : (x = 0 ∧ E_ = some ⟨6, 0, rd, rs1, 0, m, 1, true⟩) ∨ (x = 1 ∧ E_ = some ⟨6, 0, rd, rs1, 0, m, 2, true⟩) ∨ (x = 2 ∧ E_ = some ⟨6, 0, rd, rs1, 0, m, 4, true⟩) ∨ (x = 3 ∧ E_ = some ⟨6, 0, rd, rs1, 0, m, 8, true⟩) ∨ (x = 4 ∧ E_ = some ⟨6, 0, rd, rs1, 0, m, 1, false⟩) ∨ (x = 5 ∧ E_ = some ⟨6, 0, rd, rs1, 0, m, 2, false⟩) ∨ (x = 6 ∧ E_ = some ⟨6, 0, rd, rs1, 0, m, 4, false⟩) ∨ (x = 7 ∧ E_ = none) := by
    have := HX.out
    rw [← hEq]
    obtain h | h | h | h | h | h | h | h : x = 0 ∨ x = 1 ∨ x = 2 ∨ x = 3 ∨ x = 4 ∨ x = 5 ∨ x = 6 ∨ x = 7 := by omega
    all_goals (subst h; simp [ldL, stL, pk])
  clear hEq
  have hu0 : pk ([1, 2, 4, 8, 1, 2, 4] : List Int) 0 = 1 := rfl
  have hu1 : pk ([1, 2, 4, 8, 1, 2, 4] : List Int) 1 = 2 := rfl
  have hu2 : pk ([1, 2, 4, 8, 1, 2, 4] : List Int) 2 = 4 := rfl
  have hu3 : pk ([1, 2, 4, 8, 1, 2, 4] : List Int) 3 = 8 := rfl
  have hu4 : pk ([1, 2, 4, 8, 1, 2, 4] : List Int) 4 = 1 := rfl
  have hu5 : pk ([1, 2, 4, 8, 1, 2, 4] : List Int) 5 = 2 := rfl
  have hu6 : pk ([1, 2, 4, 8, 1, 2, 4] : List Int) 6 = 4 := rfl
  have hu7 : pk ([1, 2, 4, 8, 1, 2, 4] : List Int) 7 = 0 := rfl
  rcases hd with ⟨c0, hE⟩ | ⟨c0, hE⟩ | ⟨c0, hE⟩ | ⟨c0, hE⟩ | ⟨c0, hE⟩ | ⟨c0, hE⟩ | ⟨c0, hE⟩ | ⟨c0, hE⟩
  all_goals subst hE
  all_goals subst c0
  all_goals (
    go_enter Tryz.func45, Tryz.ntmps45
    go_wp2_with (first
      | (go_at_call 70; (with_reducible refine (T0.out _).mono ?_); rintro e w' ⟨rfl, hb⟩; (try replace PB := Lib.hid (PB.out.below hb)); replace ST := Lib.hid (ST.out.call hb); clear hb)
      | (go_at_call 70; (with_reducible refine (T1.out _).mono ?_); rintro e w' ⟨rfl, hb⟩; (try replace PB := Lib.hid (PB.out.below hb)); replace ST := Lib.hid (ST.out.call hb); clear hb)
      | (go_at_call 70; (with_reducible refine (T2.out _).mono ?_); rintro e w' ⟨rfl, hb⟩; (try replace PB := Lib.hid (PB.out.below hb)); replace ST := Lib.hid (ST.out.call hb); clear hb)
      | (go_at_call 70; (with_reducible refine (T3.out _).mono ?_); rintro e w' ⟨rfl, hb⟩; (try replace PB := Lib.hid (PB.out.below hb)); replace ST := Lib.hid (ST.out.call hb); clear hb)
      | (go_at_call 70; (with_reducible refine (T4.out _).mono ?_); rintro e w' ⟨rfl, hb⟩; (try replace PB := Lib.hid (PB.out.below hb)); replace ST := Lib.hid (ST.out.call hb); clear hb)
      | (go_at_call 70; (with_reducible refine (T5.out _).mono ?_); rintro e w' ⟨rfl, hb⟩; (try replace PB := Lib.hid (PB.out.below hb)); replace ST := Lib.hid (ST.out.call hb); clear hb)
      | (go_at_call 70; (with_reducible refine (T6.out _).mono ?_); rintro e w' ⟨rfl, hb⟩; (try replace PB := Lib.hid (PB.out.below hb)); replace ST := Lib.hid (ST.out.call hb); clear hb)
      | (go_at_call 70; (with_reducible refine (TO.out _).mono ?_); rintro e w' ⟨rfl, hb⟩; (try replace PB := Lib.hid (PB.out.below hb)); replace ST := Lib.hid (ST.out.call hb); clear hb)
      | (go_at_call 73; (with_reducible refine (TM.out _).mono ?_); rintro e w' ⟨rfl, hb⟩; (try replace PB := Lib.hid (PB.out.below hb)); replace ST := Lib.hid (ST.out.call hb); clear hb)
      | ((with_reducible refine Step.gate_build (t := 53) rfl ?_); refine Step.freshSlice (cs := #[.int .i64 1, .int .i64 2, .int .i64 4, .int .i64 8, .int .i64 1, .int .i64 2, .int .i64 4]) (T := 3) (n := 7) (m := 7) rfl ?hr ?_; (case hr => first | (go_simp; done) | (go_simp; rfl)); intro g9 w1 b hg hb; have PB := Lib.hid (show Blk w1 g9 (Enc.ints ([1, 2, 4, 8, 1, 2, 4] : List Int)) _ from b); replace ST := Lib.hid (ST.out.call hb); clear b hb hg)
      | (go_at_call 68; (with_reducible refine (rpick_any (n := 7) PB.out ([1, 2, 4, 8, 1, 2, 4] : List Int) rfl rfl (by decide) _ (by first | exact small HX.out (by decide) | decide)).mono ?_); rintro e w' ⟨rfl, hb⟩; clear PB; replace ST := Lib.hid (ST.out.call hb); clear hb; (try rw [hu0]); (try rw [hu1]); (try rw [hu2]); (try rw [hu3]); (try rw [hu4]); (try rw [hu5]); (try rw [hu6]); (try rw [hu7]))
      | ((with_reducible refine Step.gate_alloc (t := 44) rfl ?_); refine Step.freshAlloc rfl rfl (alloc_agg zero_inst) ?_; intro g2 w2 b hg hb; replace ST := Lib.hid (ST.out.more b hg hb); clear b hg hb)
      | ((with_reducible refine Step.gate_alloc (t := 44) rfl ?_); refine Step.freshAlloc rfl rfl (alloc_agg zero_inst) ?_; intro g1 w1 b hg hb; have ST := Lib.hid (S1.made b hg hb); clear b hg hb)
      | ((with_reducible refine Step.gate_store (t := 3) rfl ?_); refine Step.store ST.out.one rfl rfl rfl rfl rfl pl_int rfl rfl ?_; intro w3 nb m; replace ST := Lib.hid (ST.out.set1 nb m); clear nb m)
      | ((with_reducible refine Step.gate_store (t := 4) rfl ?_); refine Step.store ST.out.one rfl rfl rfl rfl rfl pl_bool rfl rfl ?_; intro w3 nb m; replace ST := Lib.hid (ST.out.set1 nb m); clear nb m)
      | ((with_reducible refine Step.gate_store (t := 44) rfl ?_); refine Step.storeAll ST.out.one rfl rfl rfl rfl rfl size_inst rfl rfl ?_; intro w3 nb m; replace ST := Lib.hid (ST.out.set1 nb m); clear nb m)
      | ((with_reducible refine Step.gate_load (t := 3) rfl ?_); refine Step.load ST.out.one rfl rfl rfl pl_int rfl ?_)
      | ((with_reducible refine Step.gate_load (t := 4) rfl ?_); refine Step.load ST.out.one rfl rfl rfl pl_bool rfl ?_)
      | ((with_reducible refine Step.gate_load (t := 44) rfl ?_); refine Step.loadAll ST.out.one rfl rfl rfl Tryz.underlying44 rfl size_inst ?_)
      | ((with_reducible refine Step.gate_store (t := 3) rfl ?_); refine Step.store ST.out.two rfl rfl rfl rfl rfl pl_int rfl rfl ?_; intro w3 nb m; replace ST := Lib.hid (ST.out.set2 nb m); clear nb m)
      | ((with_reducible refine Step.gate_store (t := 4) rfl ?_); refine Step.store ST.out.two rfl rfl rfl rfl rfl pl_bool rfl rfl ?_; intro w3 nb m; replace ST := Lib.hid (ST.out.set2 nb m); clear nb m)
      | ((with_reducible refine Step.gate_store (t := 44) rfl ?_); refine Step.storeAll ST.out.two rfl rfl rfl rfl rfl size_inst rfl rfl ?_; intro w3 nb m; replace ST := Lib.hid (ST.out.set2 nb m); clear nb m)
      | ((with_reducible refine Step.gate_load (t := 3) rfl ?_); refine Step.load ST.out.two rfl rfl rfl pl_int rfl ?_)
      | ((with_reducible refine Step.gate_load (t := 4) rfl ?_); refine Step.load ST.out.two rfl rfl rfl pl_bool rfl ?_)
      | ((with_reducible refine Step.gate_load (t := 44) rfl ?_); refine Step.loadAll ST.out.two rfl rfl rfl Tryz.underlying44 rfl size_inst ?_))
    refine bodyPost_ret (results_row_tmp rfl _ _ g1 _ _ _ rfl ST.out.one Tryz.underlying44 rfl size_inst) rfl ⟨rfl, ST.out.below⟩)
set_option maxHeartbeats 8000000 in
theorem rdec_35 (a : Int) (ha : W32 a) (hop : fd a 6 0 = 35) (w : World) : Calls Tryz.prog 45 #[.int .u32 a] w fun e w' => e = .returned (told (decOp 35 a)) ∧ Below w.heap.size w w' := by
  have T0 := Lib.hid (fun w => calls_below (rbits_any a 14 12 14 12 ha rfl rfl (by decide) (by decide) w))
  have T1 := Lib.hid (fun w => calls_below (rbits_any a 31 25 31 25 ha rfl rfl (by decide) (by decide) w))
  have T2 := Lib.hid (fun w => calls_below (rbits_any a 11 7 11 7 ha rfl rfl (by decide) (by decide) w))
  have T3 := Lib.hid (fun w => calls_below (rbits_any a 19 15 19 15 ha rfl rfl (by decide) (by decide) w))
  have T4 := Lib.hid (fun w => calls_below (rbits_any a 24 20 24 20 ha rfl rfl (by decide) (by decide) w))
  have T5 := Lib.hid (fun w => calls_below (rbits_any a 31 26 31 26 ha rfl rfl (by decide) (by decide) w))
  have T6 := Lib.hid (fun w => calls_below (rbits_any a 25 20 25 20 ha rfl rfl (by decide) (by decide) w))
  have TO := Lib.hid (fun w => calls_below (rbits_any a 6 0 6 0 ha rfl rfl (by decide) (by decide) w))
  have HX := Lib.hid (fd_lit (a := a) (h := 14) (l := 12) (n := 8) rfl)
  rw [hop] at TO
  clear hop
  have TM := Lib.hid (fun w => calls_below (rs_any a ha w))
  rw [show decOp 35 a = (if (fd a 14 12) < 4 then some ⟨7, 0, 0, (fd a 19 15), (fd a 24 20), (immS a), pk stL (fd a 14 12), false⟩ else none : Option Ins) from by simp [decOp]]
  generalize immS a = m at *
  generalize fd a 14 12 = x at *
  generalize fd a 31 25 = s at *
  generalize fd a 11 7 = rd at *
  generalize fd a 19 15 = rs1 at *
  generalize fd a 24 20 = rs2 at *
  generalize fd a 31 26 = hi at *
  generalize fd a 25 20 = sh at *
  obtain ⟨E_, hEq⟩ : ∃ E_, (if x < 4 then some ⟨7, 0, 0, rs1, rs2, m, pk stL x, false⟩ else none : Option Ins) = E_ := ⟨_, rfl⟩
  rw [hEq]
  have hd : (x = 0 ∧ E_ = some ⟨7, 0, 0, rs1, rs2, m, 1, false⟩) ∨ (x = 1 ∧ E_ = some ⟨7, 0, 0, rs1, rs2, m, 2, false⟩) ∨ (x = 2 ∧ E_ = some ⟨7, 0, 0, rs1, rs2, m, 4, false⟩) ∨ (x = 3 ∧ E_ = some ⟨7, 0, 0, rs1, rs2, m, 8, false⟩) ∨ (x = 4 ∧ E_ = none) ∨ (x = 5 ∧ E_ = none) ∨ (x = 6 ∧ E_ = none) ∨ (x = 7 ∧ E_ = none) := by
    have := HX.out
    rw [← hEq]
    obtain h | h | h | h | h | h | h | h : x = 0 ∨ x = 1 ∨ x = 2 ∨ x = 3 ∨ x = 4 ∨ x = 5 ∨ x = 6 ∨ x = 7 := by omega
    all_goals (subst h; simp [ldL, stL, pk])
  clear hEq
  have hu0 : pk ([1, 2, 4, 8] : List Int) 0 = 1 := rfl
  have hu1 : pk ([1, 2, 4, 8] : List Int) 1 = 2 := rfl
  have hu2 : pk ([1, 2, 4, 8] : List Int) 2 = 4 := rfl
  have hu3 : pk ([1, 2, 4, 8] : List Int) 3 = 8 := rfl
  have hu4 : pk ([1, 2, 4, 8] : List Int) 4 = 0 := rfl
  have hu5 : pk ([1, 2, 4, 8] : List Int) 5 = 0 := rfl
  have hu6 : pk ([1, 2, 4, 8] : List Int) 6 = 0 := rfl
  have hu7 : pk ([1, 2, 4, 8] : List Int) 7 = 0 := rfl
  rcases hd with ⟨c0, hE⟩ | ⟨c0, hE⟩ | ⟨c0, hE⟩ | ⟨c0, hE⟩ | ⟨c0, hE⟩ | ⟨c0, hE⟩ | ⟨c0, hE⟩ | ⟨c0, hE⟩
  all_goals subst hE
  all_goals subst c0
  all_goals (
    go_enter Tryz.func45, Tryz.ntmps45
    go_wp2_with (first
      | (go_at_call 70; (with_reducible refine (T0.out _).mono ?_); rintro e w' ⟨rfl, hb⟩; (try replace PB := Lib.hid (PB.out.below hb)); replace ST := Lib.hid (ST.out.call hb); clear hb)
      | (go_at_call 70; (with_reducible refine (T1.out _).mono ?_); rintro e w' ⟨rfl, hb⟩; (try replace PB := Lib.hid (PB.out.below hb)); replace ST := Lib.hid (ST.out.call hb); clear hb)
      | (go_at_call 70; (with_reducible refine (T2.out _).mono ?_); rintro e w' ⟨rfl, hb⟩; (try replace PB := Lib.hid (PB.out.below hb)); replace ST := Lib.hid (ST.out.call hb); clear hb)
      | (go_at_call 70; (with_reducible refine (T3.out _).mono ?_); rintro e w' ⟨rfl, hb⟩; (try replace PB := Lib.hid (PB.out.below hb)); replace ST := Lib.hid (ST.out.call hb); clear hb)
      | (go_at_call 70; (with_reducible refine (T4.out _).mono ?_); rintro e w' ⟨rfl, hb⟩; (try replace PB := Lib.hid (PB.out.below hb)); replace ST := Lib.hid (ST.out.call hb); clear hb)
      | (go_at_call 70; (with_reducible refine (T5.out _).mono ?_); rintro e w' ⟨rfl, hb⟩; (try replace PB := Lib.hid (PB.out.below hb)); replace ST := Lib.hid (ST.out.call hb); clear hb)
      | (go_at_call 70; (with_reducible refine (T6.out _).mono ?_); rintro e w' ⟨rfl, hb⟩; (try replace PB := Lib.hid (PB.out.below hb)); replace ST := Lib.hid (ST.out.call hb); clear hb)
      | (go_at_call 70; (with_reducible refine (TO.out _).mono ?_); rintro e w' ⟨rfl, hb⟩; (try replace PB := Lib.hid (PB.out.below hb)); replace ST := Lib.hid (ST.out.call hb); clear hb)
      | (go_at_call 75; (with_reducible refine (TM.out _).mono ?_); rintro e w' ⟨rfl, hb⟩; (try replace PB := Lib.hid (PB.out.below hb)); replace ST := Lib.hid (ST.out.call hb); clear hb)
      | ((with_reducible refine Step.gate_build (t := 53) rfl ?_); refine Step.freshSlice (cs := #[.int .i64 1, .int .i64 2, .int .i64 4, .int .i64 8]) (T := 3) (n := 4) (m := 4) rfl ?hr ?_; (case hr => first | (go_simp; done) | (go_simp; rfl)); intro g9 w1 b hg hb; have PB := Lib.hid (show Blk w1 g9 (Enc.ints ([1, 2, 4, 8] : List Int)) _ from b); replace ST := Lib.hid (ST.out.call hb); clear b hb hg)
      | (go_at_call 68; (with_reducible refine (rpick_any (n := 4) PB.out ([1, 2, 4, 8] : List Int) rfl rfl (by decide) _ (by first | exact small HX.out (by decide) | decide)).mono ?_); rintro e w' ⟨rfl, hb⟩; clear PB; replace ST := Lib.hid (ST.out.call hb); clear hb; (try rw [hu0]); (try rw [hu1]); (try rw [hu2]); (try rw [hu3]); (try rw [hu4]); (try rw [hu5]); (try rw [hu6]); (try rw [hu7]))
      | ((with_reducible refine Step.gate_alloc (t := 44) rfl ?_); refine Step.freshAlloc rfl rfl (alloc_agg zero_inst) ?_; intro g2 w2 b hg hb; replace ST := Lib.hid (ST.out.more b hg hb); clear b hg hb)
      | ((with_reducible refine Step.gate_alloc (t := 44) rfl ?_); refine Step.freshAlloc rfl rfl (alloc_agg zero_inst) ?_; intro g1 w1 b hg hb; have ST := Lib.hid (S1.made b hg hb); clear b hg hb)
      | ((with_reducible refine Step.gate_store (t := 3) rfl ?_); refine Step.store ST.out.one rfl rfl rfl rfl rfl pl_int rfl rfl ?_; intro w3 nb m; replace ST := Lib.hid (ST.out.set1 nb m); clear nb m)
      | ((with_reducible refine Step.gate_store (t := 4) rfl ?_); refine Step.store ST.out.one rfl rfl rfl rfl rfl pl_bool rfl rfl ?_; intro w3 nb m; replace ST := Lib.hid (ST.out.set1 nb m); clear nb m)
      | ((with_reducible refine Step.gate_store (t := 44) rfl ?_); refine Step.storeAll ST.out.one rfl rfl rfl rfl rfl size_inst rfl rfl ?_; intro w3 nb m; replace ST := Lib.hid (ST.out.set1 nb m); clear nb m)
      | ((with_reducible refine Step.gate_load (t := 3) rfl ?_); refine Step.load ST.out.one rfl rfl rfl pl_int rfl ?_)
      | ((with_reducible refine Step.gate_load (t := 4) rfl ?_); refine Step.load ST.out.one rfl rfl rfl pl_bool rfl ?_)
      | ((with_reducible refine Step.gate_load (t := 44) rfl ?_); refine Step.loadAll ST.out.one rfl rfl rfl Tryz.underlying44 rfl size_inst ?_)
      | ((with_reducible refine Step.gate_store (t := 3) rfl ?_); refine Step.store ST.out.two rfl rfl rfl rfl rfl pl_int rfl rfl ?_; intro w3 nb m; replace ST := Lib.hid (ST.out.set2 nb m); clear nb m)
      | ((with_reducible refine Step.gate_store (t := 4) rfl ?_); refine Step.store ST.out.two rfl rfl rfl rfl rfl pl_bool rfl rfl ?_; intro w3 nb m; replace ST := Lib.hid (ST.out.set2 nb m); clear nb m)
      | ((with_reducible refine Step.gate_store (t := 44) rfl ?_); refine Step.storeAll ST.out.two rfl rfl rfl rfl rfl size_inst rfl rfl ?_; intro w3 nb m; replace ST := Lib.hid (ST.out.set2 nb m); clear nb m)
      | ((with_reducible refine Step.gate_load (t := 3) rfl ?_); refine Step.load ST.out.two rfl rfl rfl pl_int rfl ?_)
      | ((with_reducible refine Step.gate_load (t := 4) rfl ?_); refine Step.load ST.out.two rfl rfl rfl pl_bool rfl ?_)
      | ((with_reducible refine Step.gate_load (t := 44) rfl ?_); refine Step.loadAll ST.out.two rfl rfl rfl Tryz.underlying44 rfl size_inst ?_))
    refine bodyPost_ret (results_row_tmp rfl _ _ g1 _ _ _ rfl ST.out.one Tryz.underlying44 rfl size_inst) rfl ⟨rfl, ST.out.below⟩)
set_option maxHeartbeats 8000000 in
theorem rdec_47_of (a : Int) (ha : W32 a) (hop : fd a 6 0 = 47) (d : Option Ins) (TS : Hid (∀ w, Calls Tryz.prog 77 #[.int .u32 a, .int .i64 (fd a 14 12), .int .i64 (fd a 11 7), .int .i64 (fd a 19 15), .int .i64 (fd a 24 20)] w fun e w' => e = .returned (told d) ∧ Below w.heap.size w w')) (w : World) : Calls Tryz.prog 45 #[.int .u32 a] w fun e w' => e = .returned (told d) ∧ Below w.heap.size w w' := by
  have T0 := Lib.hid (fun w => calls_below (rbits_any a 14 12 14 12 ha rfl rfl (by decide) (by decide) w))
  have T1 := Lib.hid (fun w => calls_below (rbits_any a 31 25 31 25 ha rfl rfl (by decide) (by decide) w))
  have T2 := Lib.hid (fun w => calls_below (rbits_any a 11 7 11 7 ha rfl rfl (by decide) (by decide) w))
  have T3 := Lib.hid (fun w => calls_below (rbits_any a 19 15 19 15 ha rfl rfl (by decide) (by decide) w))
  have T4 := Lib.hid (fun w => calls_below (rbits_any a 24 20 24 20 ha rfl rfl (by decide) (by decide) w))
  have T5 := Lib.hid (fun w => calls_below (rbits_any a 31 26 31 26 ha rfl rfl (by decide) (by decide) w))
  have T6 := Lib.hid (fun w => calls_below (rbits_any a 25 20 25 20 ha rfl rfl (by decide) (by decide) w))
  have TO := Lib.hid (fun w => calls_below (rbits_any a 6 0 6 0 ha rfl rfl (by decide) (by decide) w))
  have HX := Lib.hid (fd_lit (a := a) (h := 14) (l := 12) (n := 8) rfl)
  rw [hop] at TO
  clear hop
  generalize fd a 14 12 = x at *
  generalize fd a 31 25 = s at *
  generalize fd a 11 7 = rd at *
  generalize fd a 19 15 = rs1 at *
  generalize fd a 24 20 = rs2 at *
  generalize fd a 31 26 = hi at *
  generalize fd a 25 20 = sh at *
  have hs : ∃ r1 r2 r3 r4 r5 r6 r7 r8 r9, told d = .tuple #[.agg #[.int .i64 r1, .int .i64 r2, .int .i64 r3, .int .i64 r4, .int .i64 r5, .int .i64 r6, .int .i64 r7, .bool r8], .bool r9] := by
    cases d with
    | none => exact ⟨_, _, _, _, _, _, _, _, _, rfl⟩
    | some j => exact ⟨_, _, _, _, _, _, _, _, _, rfl⟩
  obtain ⟨r1, r2, r3, r4, r5, r6, r7, r8, r9, hs⟩ := hs
  rw [hs] at TS ⊢
  clear hs
  go_enter Tryz.func45, Tryz.ntmps45
  go_wp2_with (first
    | (go_at_call 70; (with_reducible refine (T0.out _).mono ?_); rintro e w' ⟨rfl, hb⟩; (try replace PB := Lib.hid (PB.out.below hb)); replace ST := Lib.hid (ST.out.call hb); clear hb)
    | (go_at_call 70; (with_reducible refine (T1.out _).mono ?_); rintro e w' ⟨rfl, hb⟩; (try replace PB := Lib.hid (PB.out.below hb)); replace ST := Lib.hid (ST.out.call hb); clear hb)
    | (go_at_call 70; (with_reducible refine (T2.out _).mono ?_); rintro e w' ⟨rfl, hb⟩; (try replace PB := Lib.hid (PB.out.below hb)); replace ST := Lib.hid (ST.out.call hb); clear hb)
    | (go_at_call 70; (with_reducible refine (T3.out _).mono ?_); rintro e w' ⟨rfl, hb⟩; (try replace PB := Lib.hid (PB.out.below hb)); replace ST := Lib.hid (ST.out.call hb); clear hb)
    | (go_at_call 70; (with_reducible refine (T4.out _).mono ?_); rintro e w' ⟨rfl, hb⟩; (try replace PB := Lib.hid (PB.out.below hb)); replace ST := Lib.hid (ST.out.call hb); clear hb)
    | (go_at_call 70; (with_reducible refine (T5.out _).mono ?_); rintro e w' ⟨rfl, hb⟩; (try replace PB := Lib.hid (PB.out.below hb)); replace ST := Lib.hid (ST.out.call hb); clear hb)
    | (go_at_call 70; (with_reducible refine (T6.out _).mono ?_); rintro e w' ⟨rfl, hb⟩; (try replace PB := Lib.hid (PB.out.below hb)); replace ST := Lib.hid (ST.out.call hb); clear hb)
    | (go_at_call 70; (with_reducible refine (TO.out _).mono ?_); rintro e w' ⟨rfl, hb⟩; (try replace PB := Lib.hid (PB.out.below hb)); replace ST := Lib.hid (ST.out.call hb); clear hb)
    | (go_at_call 77; (with_reducible refine (TS.out _).mono ?_); rintro e w' ⟨rfl, hb⟩; (try replace PB := Lib.hid (PB.out.below hb)); replace ST := Lib.hid (ST.out.call hb); clear hb)
    | ((with_reducible refine Step.gate_alloc (t := 44) rfl ?_); refine Step.freshAlloc rfl rfl (alloc_agg zero_inst) ?_; intro g2 w2 b hg hb; replace ST := Lib.hid (ST.out.more b hg hb); clear b hg hb)
    | ((with_reducible refine Step.gate_alloc (t := 44) rfl ?_); refine Step.freshAlloc rfl rfl (alloc_agg zero_inst) ?_; intro g1 w1 b hg hb; have ST := Lib.hid (S1.made b hg hb); clear b hg hb)
    | ((with_reducible refine Step.gate_store (t := 3) rfl ?_); refine Step.store ST.out.one rfl rfl rfl rfl rfl pl_int rfl rfl ?_; intro w3 nb m; replace ST := Lib.hid (ST.out.set1 nb m); clear nb m)
    | ((with_reducible refine Step.gate_store (t := 4) rfl ?_); refine Step.store ST.out.one rfl rfl rfl rfl rfl pl_bool rfl rfl ?_; intro w3 nb m; replace ST := Lib.hid (ST.out.set1 nb m); clear nb m)
    | ((with_reducible refine Step.gate_store (t := 44) rfl ?_); refine Step.storeAll ST.out.one rfl rfl rfl rfl rfl size_inst rfl rfl ?_; intro w3 nb m; replace ST := Lib.hid (ST.out.set1 nb m); clear nb m)
    | ((with_reducible refine Step.gate_load (t := 3) rfl ?_); refine Step.load ST.out.one rfl rfl rfl pl_int rfl ?_)
    | ((with_reducible refine Step.gate_load (t := 4) rfl ?_); refine Step.load ST.out.one rfl rfl rfl pl_bool rfl ?_)
    | ((with_reducible refine Step.gate_load (t := 44) rfl ?_); refine Step.loadAll ST.out.one rfl rfl rfl Tryz.underlying44 rfl size_inst ?_)
    | ((with_reducible refine Step.gate_store (t := 3) rfl ?_); refine Step.store ST.out.two rfl rfl rfl rfl rfl pl_int rfl rfl ?_; intro w3 nb m; replace ST := Lib.hid (ST.out.set2 nb m); clear nb m)
    | ((with_reducible refine Step.gate_store (t := 4) rfl ?_); refine Step.store ST.out.two rfl rfl rfl rfl rfl pl_bool rfl rfl ?_; intro w3 nb m; replace ST := Lib.hid (ST.out.set2 nb m); clear nb m)
    | ((with_reducible refine Step.gate_store (t := 44) rfl ?_); refine Step.storeAll ST.out.two rfl rfl rfl rfl rfl size_inst rfl rfl ?_; intro w3 nb m; replace ST := Lib.hid (ST.out.set2 nb m); clear nb m)
    | ((with_reducible refine Step.gate_load (t := 3) rfl ?_); refine Step.load ST.out.two rfl rfl rfl pl_int rfl ?_)
    | ((with_reducible refine Step.gate_load (t := 4) rfl ?_); refine Step.load ST.out.two rfl rfl rfl pl_bool rfl ?_)
    | ((with_reducible refine Step.gate_load (t := 44) rfl ?_); refine Step.loadAll ST.out.two rfl rfl rfl Tryz.underlying44 rfl size_inst ?_))
  refine bodyPost_ret (results_row_tmp rfl _ _ g1 _ _ _ rfl ST.out.one Tryz.underlying44 rfl size_inst) rfl ⟨rfl, ST.out.below⟩
end Go.Proofs.YthkodjkkcgdmfaaGreat.Enc
end
section
namespace Go.Proofs.YthkodjkkcgdmfaaGreat.Enc
open Go Go.RowKit Go.Proofs.YthkodjkkcgdmfaaGreat.Step
set_option linter.unusedVariables false
set_option linter.unusedSimpArgs false
set_option maxRecDepth 100000
section
variable {P : Program} {ops : Array Oper} {rest : List Oper} {o : Oper} {a : Act} {W : World} {Q : Exit → Act → World → Prop}
/-- A variable of several cells is read, by an operation whose guard says yes. -/
theorem loadAllW {t : TypeId} {x : Operand} {g : Nat} {cs : Array Value} {T : TypeId} {d : TypeDesc} (hB : Blk W g cs T) (hw : Region.wanted o (yielded ops a.tmps) = true) (ho : o.op = .load t x) (hx : a.eval x = .pointer (some ⟨g, 0, none⟩)) (hu : P.underlying t = some d)
    (hd : (match d with | .struct _ | .array _ _ => true | _ => false) = true) (hi : (P.info? t).map (·.size) = some cs.size) (h : wpList P ops Q rest (a.put o.dst (.agg cs)) W) : wpList P ops Q (o :: rest) a W := by
  refine BigFrame.wpList_want hw fun K hK => ?_
  have h1 := run_loadVar_row (P := P) W g T t cs (0, 0) d hB.out hu hd hi
  have h2 : (execOp a.eval o).run P W = .ok (.value (.agg cs)) W := by simp [execOp, ho, hx, Instr.loadAt, Instr.sureAddr, h1, Result.andThen]
  unfold Oper.wp; rw [h2]; exact hK _ _ h
end
end Go.Proofs.YthkodjkkcgdmfaaGreat.Enc
end
section
namespace Go.Proofs.YthkodjkkcgdmfaaGreat.Enc
open Go Go.RowKit Go.Proofs.YthkodjkkcgdmfaaGreat.Step
set_option linter.unusedVariables false
set_option linter.unusedSimpArgs false
set_option maxRecDepth 100000
section
variable {P : Program} {ops : Array Oper} {rest : List Oper} {o : Oper} {a : Act} {W : World} {Q : Exit → Act → World → Prop}
/-- A cell is read, by an operation whose guard says yes. -/
theorem loadW1 {t : TypeId} {x : Operand} {g i : Nat} {cs : Array Value} {T : TypeId} {v : Value} (hB : Blk W g cs T) (hw : Region.wanted o (yielded ops a.tmps) = true) (ho : o.op = .load t x) (hx : a.eval x = .pointer (some ⟨g, i, none⟩)) (ht : plainT P t = true) (hv : cs[i]? = some v)
    (h : wpList P ops Q rest (a.put o.dst v) W) : wpList P ops Q (o :: rest) a W := by
  refine BigFrame.wpList_want hw fun K hK => ?_
  have h1 := run_load1 (P := P) ht ((hB.cell i).trans hv)
  have h2 : (execOp a.eval o).run P W = .ok (.value v) W := by simp [execOp, ho, hx, h1, Result.andThen]
  unfold Oper.wp; rw [h2]; exact hK _ _ h
end
/-- The fields are within the document's bounds. -/
def InR (i : Ins) : Prop := (-2147483648 ≤ i.imm ∧ i.imm < 2147483648) ∧ (0 ≤ i.rd ∧ i.rd ≤ 31) ∧ (0 ≤ i.rs1 ∧ i.rs1 ≤ 31) ∧ (0 ≤ i.rs2 ∧ i.rs2 ≤ 31) ∧ (0 ≤ i.fn ∧ i.fn ≤ 28) ∧ (0 ≤ i.sz ∧ i.sz ≤ 8)
end Go.Proofs.YthkodjkkcgdmfaaGreat.Enc
end
section
namespace Go.Proofs.YthkodjkkcgdmfaaGreat.Enc
open Go Go.RowKit
set_option linter.unusedVariables false
set_option linter.unusedSimpArgs false
set_option maxRecDepth 100000
theorem z28 : (0 : Int) ≤ 0 ∧ (0 : Int) ≤ 28 := by decide
def wordP (i : Ins) : Int := wordF i.k i.fn i.rd i.rs1 i.rs2 i.imm i.sz i.sg
theorem p0 (n l : Nat) : pt 0 n l = 0 := pt0 n l
end Go.Proofs.YthkodjkkcgdmfaaGreat.Enc
end
section
namespace Go.Proofs.YthkodjkkcgdmfaaGreat.Enc
open Go Go.RowKit Go.Proofs.YthkodjkkcgdmfaaGreat.Step
set_option linter.unusedVariables false
set_option linter.unusedSimpArgs false
set_option maxRecDepth 100000
theorem rDec_3 (a : Int) (ha : W32 a) (h : fd a 6 0 = 3) (w : World) : Calls Tryz.prog 45 #[.int .u32 a] w fun e w' => e = .returned (told (dec a)) ∧ Below w.heap.size w w' := by
  unfold dec
  rw [h]
  exact rdec_3 a ha h w
theorem rDec_35 (a : Int) (ha : W32 a) (h : fd a 6 0 = 35) (w : World) : Calls Tryz.prog 45 #[.int .u32 a] w fun e w' => e = .returned (told (dec a)) ∧ Below w.heap.size w w' := by
  unfold dec
  rw [h]
  exact rdec_35 a ha h w
theorem rDec_47_3 (a : Int) (ha : W32 a) (h : fd a 6 0 = 47) (h3 : fd a 14 12 = 3) (w : World) : Calls Tryz.prog 45 #[.int .u32 a] w fun e w' => e = .returned (told (dec a)) ∧ Below w.heap.size w w' := by
  unfold dec
  rw [h, show decOp 47 a = atD a from by simp [decOp]]
  refine rdec_47_of a ha h (atD a) (Lib.hid fun w => ?_) w
  rw [show atD a = atE 8 (fd a 31 27) (fd a 11 7) (fd a 19 15) (fd a 24 20) from by simp [atD, atE, h3], h3]
  exact ratomic_3 a _ _ _ ha w
end Go.Proofs.YthkodjkkcgdmfaaGreat.Enc
end
section
namespace Go.Proofs.YthkodjkkcgdmfaaGreat.Duo
open Go Go.RowKit Go.Proofs.YthkodjkkcgdmfaaGreat.Step
open Go.Proofs.YthkodjkkcgdmfaaGreat.Mem (Ram Grow hasB wholeB num wr Rd fl Arg lst)
set_option linter.unusedVariables false
set_option linter.unusedSimpArgs false
set_option maxRecDepth 100000
set_option maxHeartbeats 1000000 in
theorem wboth4 {W w : World} {h1 h2 n : Nat} {base : Int} {mem : Nat → Int} {F1 F2 : Nat → Prop} (d : Duo W w h1 h2 base n mem F1 F2) (addr v : Int) (ha : 0 ≤ addr ∧ addr < 18446744073709551616) (hv : 0 ≤ v ∧ v < 18446744073709551616) (hh : hasB base n addr 4 = true) :
    Calls Tryz.prog 28 #[.agg #[.pointer (some ⟨h1, 0, none⟩), .pointer (some ⟨h2, 0, none⟩)], .int .u64 addr, .int .i64 4, .int .u64 v] w fun e w' => e = .returned (.tuple #[]) ∧ ∃ F1' F2', Duo W w' h1 h2 base n (wr mem (addr - base).toNat 4 v) F1' F2' ∧ (∀ k, k < w.heap.size → F1' k → F1 k) ∧ (∀ k, k < w.heap.size → F2' k → F2 k) ∧ Mod (fun k => F1 k ∨ F2 k) w w' := by
  have D := Lib.hid d
  have P1 := Lib.hid (fun (w1 : World) (r : Ram w1 h1 base n mem F1) => write_z r addr v 4 4 rfl ha hv (by decide) hh)
  have P2 := Lib.hid (fun (w1 : World) (r : Ref.Mem w1 h2 base n mem F2) => rwrite_z r addr v 4 4 rfl ha hv (by decide) hh)
  have hu := Tryz.underlying40
  clear d ha hv hh
  go_enter Tryz.func28, Tryz.ntmps28
  go_wp2_with (first
    | ((with_reducible refine Step.gate_box (t := 40) rfl ?_); refine Step.fresh (cs := #[.pointer (some ⟨h1, 0, none⟩), .pointer (some ⟨h2, 0, none⟩)]) (T := 40) rfl ?hr ?_; (case hr => first | (go_simp; done) | (go_simp; rfl)); intro g w2 b hg hb; have c0 := b.cell 0; have B := Lib.hid b; have D2 := Lib.hid (D.out.below hb); have HB := Lib.hid hb; have HG := Lib.hid hg; simp only [List.getElem?_toArray, List.getElem?_cons_zero] at c0; clear b hg hb)
    | (go_at_call 46; refine (P1.out _ D2.out.one).mono ?_; rintro e w3 ⟨rfl, r, m⟩; have R1 := Lib.hid r; have M1 := Lib.hid m; have c1 := (((B.out.mod m (fun hf => by have := D.out.bound g (.inl hf); have := HG.out; omega)).cell 1)); have r2 := Lib.hid (D2.out.two.mod m (fun k h2 h1 => D.out.apart k h1 h2)); simp only [List.getElem?_toArray, List.getElem?_cons_zero, List.getElem?_cons_succ] at c1; clear r m)
    | (go_at_call 29; refine (P2.out _ r2.out).mono ?_; rintro e w4 ⟨rfl, r, m⟩; have R2 := Lib.hid r; have M2 := Lib.hid m; clear r m))
  go_end0
  have dd := D2.out.step R1.out M1.out R2.out M2.out
  have hs := HB.out.size
  refine ⟨rfl, _, _, dd, fun k hk h => h.elim id fun h => by omega, fun k hk h => h.elim id fun h => by have := M1.out.size; omega, ?_⟩
  refine ((Mod.of_below HB.out _).trans (M1.out.mono fun k _ h => .inl h)).trans (M2.out.mono fun k _ h => .inr h)
end Go.Proofs.YthkodjkkcgdmfaaGreat.Duo
namespace Go.Proofs.YthkodjkkcgdmfaaGreat.Hart
open Go Go.RowKit Go.Proofs.YthkodjkkcgdmfaaGreat.Step Go.Proofs.YthkodjkkcgdmfaaGreat.Enc Go.Proofs.YthkodjkkcgdmfaaGreat.Kn
open Go.Proofs.YthkodjkkcgdmfaaGreat.Mem (Ram Grow hasB newB wholeB num wr Rd fl Arg lst)
open Go.Proofs.YthkodjkkcgdmfaaGreat.Duo (Duo RdC cm size_two)
set_option linter.unusedVariables false
set_option linter.unusedSimpArgs false
set_option maxRecDepth 100000
set_option maxHeartbeats 4000000 in
theorem rEncode_at (i : Ins) (u : Int) (hr : InR i) (hu : W32 u) (hd : dec u = some i) (T1 : Hid (∀ w, Calls Tryz.prog 45 #[.int .u32 u] w fun e w' => e = .returned (told (dec u)) ∧ Below w.heap.size w w')) (T0 : Hid (∀ w, Calls Tryz.prog 44 #[.agg i.cells] w fun e w' => e = .returned (.int .u32 u) ∧ Below w.heap.size w w')) (w : World) :
    Calls Tryz.prog 27 #[.agg i.cells] w fun e w' => e = .returned (.tuple #[.int .u32 u, .bool true]) ∧ Below w.heap.size w w' := by
  have TI := Lib.hid in_any
  obtain ⟨k, fn, rd, rs1, rs2, imm, sz, sg⟩ := i
  have hf : decide (imm < -2147483648) = false ∧ decide (2147483648 ≤ imm) = false ∧ (decide (0 ≤ rd) && decide (rd ≤ 31)) = true ∧ (decide (0 ≤ rs1) && decide (rs1 ≤ 31)) = true ∧ (decide (0 ≤ rs2) && decide (rs2 ≤ 31)) = true ∧ (decide (0 ≤ fn) && decide (fn ≤ 28)) = true ∧ (decide (0 ≤ sz) && decide (sz ≤ 8)) = true := by
    simp only [InR] at hr
    refine ⟨decide_eq_false (by omega), decide_eq_false (by omega), ?_, ?_, ?_, ?_, ?_⟩ <;> (simp only [Bool.and_eq_true, decide_eq_true_eq]; omega)
  clear hr
  obtain ⟨f0, f1, f2, f3, f4, f5, f6⟩ := hf
  simp only [Ins.cells] at T0 ⊢
  rw [hd] at T1
  clear hd hu
  simp only [told, Ins.cells] at T1
  go_enter Tryz.func27, Tryz.ntmps27
  go_wp2_with (first
    | (go_at_call 43; (with_reducible refine (TI.out _ _ _ _).mono ?_); rintro e w' ⟨rfl, hb⟩; (try replace PB := Lib.hid (PB.out.below hb)); replace ST := Lib.hid (ST.out.call hb); clear hb)
    | (go_at_call 44; (with_reducible refine (T0.out _).mono ?_); rintro e w' ⟨rfl, hb⟩; (try replace PB := Lib.hid (PB.out.below hb)); replace ST := Lib.hid (ST.out.call hb); clear hb)
    | (go_at_call 45; (with_reducible refine (T1.out _).mono ?_); rintro e w' ⟨rfl, hb⟩; (try replace PB := Lib.hid (PB.out.below hb)); replace ST := Lib.hid (ST.out.call hb); clear hb)
    | ((with_reducible refine Step.gate_alloc (t := 44) rfl ?_); refine Step.freshAlloc rfl rfl (alloc_agg zero_inst) ?_; intro g2 w2 b hg hb; replace ST := Lib.hid (ST.out.more b hg hb); clear b hg hb)
    | ((with_reducible refine Step.gate_box (t := 44) rfl ?_); refine Step.fresh (cs := #[.int .i64 k, .int .i64 fn, .int .i64 rd, .int .i64 rs1, .int .i64 rs2, .int .i64 imm, .int .i64 sz, .bool sg]) (T := 44) rfl ?hr ?_; (case hr => first | (go_simp; done) | (go_simp; rfl)); intro g1 w1 b hg hb; have ST := Lib.hid (S1.made b hg hb); clear b hg hb)
    | ((with_reducible refine Step.gate_load (t := 3) rfl ?_); refine loadW1 ST.out.one rfl rfl rfl pl_int rfl ?_)
    | ((with_reducible refine Step.gate_store (t := 3) rfl ?_); refine Step.store ST.out.one rfl rfl rfl rfl rfl pl_int rfl rfl ?_; intro w3 nb m; replace ST := Lib.hid (ST.out.set1 nb m); clear nb m)
    | ((with_reducible refine Step.gate_store (t := 4) rfl ?_); refine Step.store ST.out.one rfl rfl rfl rfl rfl pl_bool rfl rfl ?_; intro w3 nb m; replace ST := Lib.hid (ST.out.set1 nb m); clear nb m)
    | ((with_reducible refine Step.gate_store (t := 44) rfl ?_); refine Step.storeAll ST.out.one rfl rfl rfl rfl rfl size_inst rfl rfl ?_; intro w3 nb m; replace ST := Lib.hid (ST.out.set1 nb m); clear nb m)
    | ((with_reducible refine Step.gate_load (t := 3) rfl ?_); refine Step.load ST.out.one rfl rfl rfl pl_int rfl ?_)
    | ((with_reducible refine Step.gate_load (t := 4) rfl ?_); refine Step.load ST.out.one rfl rfl rfl pl_bool rfl ?_)
    | ((with_reducible refine Step.gate_load (t := 44) rfl ?_); refine Step.loadAll ST.out.one rfl rfl rfl Tryz.underlying44 rfl size_inst ?_)
    | ((with_reducible refine Step.gate_store (t := 3) rfl ?_); refine Step.store ST.out.two rfl rfl rfl rfl rfl pl_int rfl rfl ?_; intro w3 nb m; replace ST := Lib.hid (ST.out.set2 nb m); clear nb m)
    | ((with_reducible refine Step.gate_store (t := 4) rfl ?_); refine Step.store ST.out.two rfl rfl rfl rfl rfl pl_bool rfl rfl ?_; intro w3 nb m; replace ST := Lib.hid (ST.out.set2 nb m); clear nb m)
    | ((with_reducible refine Step.gate_store (t := 44) rfl ?_); refine Step.storeAll ST.out.two rfl rfl rfl rfl rfl size_inst rfl rfl ?_; intro w3 nb m; replace ST := Lib.hid (ST.out.set2 nb m); clear nb m)
    | ((with_reducible refine Step.gate_load (t := 3) rfl ?_); refine Step.load ST.out.two rfl rfl rfl pl_int rfl ?_)
    | ((with_reducible refine Step.gate_load (t := 4) rfl ?_); refine Step.load ST.out.two rfl rfl rfl pl_bool rfl ?_)
    | ((with_reducible refine Step.gate_load (t := 44) rfl ?_); refine Step.loadAll ST.out.two rfl rfl rfl Tryz.underlying44 rfl size_inst ?_)
    | ((with_reducible refine Step.gate_load (t := 44) rfl ?_); refine loadAllW ST.out.one rfl rfl rfl Tryz.underlying44 rfl size_inst ?_)
    | ((with_reducible refine Step.gate_load (t := 44) rfl ?_); refine loadAllW ST.out.two rfl rfl rfl Tryz.underlying44 rfl size_inst ?_))
  go_ret2
  exact ⟨rfl, ST.out.below⟩
theorem word_at (i : Ins) (hr : InR i) (w : World) : Calls Tryz.prog 44 #[.agg i.cells] w fun e w' => e = .returned (.int .u32 (wordP i)) ∧ Below w.heap.size w w' :=
  word_any i.k i.fn i.rd i.rs1 i.rs2 i.imm i.sz i.sg hr.2.2.2.2.1 hr.2.2.2.2.2 w
section
variable {W w : World} {h1 h2 n : Nat} {base : Int} {m1 m2 : Nat → Int} {F1 F2 : Nat → Prop} {L L' : Blks}
theorem _root_.Go.Proofs.YthkodjkkcgdmfaaGreat.Kn.Kn.sub {S : Nat → Prop} (k : Kn S W w L) (s : L'.Sublist L) : Kn S W w L' := ⟨k.mod, fun p h => k.blk p (s.subset h), fun p h => k.own p (s.subset h), k.nod.sublist s⟩
theorem DK.sub (d : DK W w h1 h2 base n m1 m2 F1 F2 L) (s : L'.Sublist L) : DK W w h1 h2 base n m1 m2 F1 F2 L' := ⟨d.one, d.two, d.apart, d.new, d.kn.sub s, fun k hk p hp => d.ap k hk p (s.subset hp)⟩
end
theorem DK.start {W V w : World} {h1 h2 n : Nat} {base : Int} {mem : Nat → Int} {F1 F2 : Nat → Prop} {L : Blks} (k : Kn Step.Nil W V L) (d : Duo V w h1 h2 base n mem F1 F2) : DK W w h1 h2 base n mem mem F1 F2 L :=
  DK.of (d.ahead k.below) (k.call d.out) fun j hj p hp e => by
    have := (k.blk p hp).lt
    have := d.new j hj
    omega
theorem results_t3 {P : Program} {fn : Func} {a p d : Tmp} {ty : TypeId} (h : fn.results = #[.tmp a, .cell p ty, .tmp d]) (tmps : Array Value) (w : World) (g : Nat) (t : TypeId) (cs : Array Value) (de : TypeDesc)
    (hp : tmps.getD p undef = .pointer (some ⟨g, 0, none⟩)) (hg : Blk w g cs t) (hu : P.underlying ty = some de) (hd : (match de with | .struct _ | .array _ _ => true | _ => false) = true) (hi : (P.info? ty).map (·.size) = some cs.size) :
    (results fn tmps).run P w = .ok (.tuple #[tmps.getD a undef, .agg cs, tmps.getD d undef]) w := by
  have h2 := run_loadVar_row (P := P) w g t ty cs (0, 0) de hg.out hu hd hi
  have e : (results fn tmps).run P w = ((asAddr (tmps.getD p undef)).run P w).andThen fun ad w₁ => ((loadVar ty ad).run P w₁).andThen fun v w₂ => .ok (.tuple #[tmps.getD a undef, v, tmps.getD d undef]) w₂ := by
    simp only [results, h]
    simp [Sem.run_bind, Result.andThen]
  rw [e, hp]
  simp only [asAddr, Sem.run_pure, Result.andThen_ok, h2]
theorem wrap32 {u : Int} (h : W32 u) : IntKind.u64.wrap u = u := IntWalk.u64_in _ (by have := h.out; omega)
theorem one_new : newB 2147483648 1 = true := by decide
set_option maxHeartbeats 8000000 in
theorem one_any (W : World) (i : Ins) (hr : InR i) (hw : W32 (wordP i)) (hd : dec (wordP i) = some i) (TD : Hid (∀ w, Calls Tryz.prog 45 #[.int .u32 (wordP i)] w fun e w' => e = .returned (told (dec (wordP i))) ∧ Below w.heap.size w w')) (A : Option Addr) (len cap : Nat) (f : Nat → Int × Int) (r : RdC W A len f (· < W.heap.size)) (hl : len ≤ 9223372036854775807) :
    Calls Tryz.prog 22 #[.agg i.cells, .slice A len cap] W fun e w' => ∃ gc gt h1 h2 F1 F2, e = .returned (.tuple #[.pointer (some ⟨gc, 0, none⟩), .agg #[.pointer (some ⟨h1, 0, none⟩), .pointer (some ⟨h2, 0, none⟩)], .bool true]) ∧ DK W w' h1 h2 2147483648 1 (wr (cm 1 f len) 0 4 (wordP i)) (wr (cm 1 f len) 0 4 (wordP i)) F1 F2 ((gc, ccg h1 (.pointer (some ⟨gt, 0, none⟩)) 0 0 0 0 (.map none), TC) :: (gt, #[.int .i64 1, .slice none 0 0], 115) :: []) := by
  have TM := Lib.hid (fun (X : World) (bl : Below W.heap.size W X) => Duo.memory_any X 2147483648 1 1 rfl (by decide) one_new A len cap f ((r.mod (Mod.of_below bl Step.Nil) (fun _ _ h => h) fun _ h => h).wide fun k hk => Nat.lt_of_lt_of_le hk bl.size) hl)
  have TE := Lib.hid (rEncode_at i (wordP i) hr hw hd TD (Lib.hid (word_at i hr)))
  have HW := Lib.hid hw
  have e32 := wrap32 hw
  clear r hl hr hd hw TD
  generalize wordP i = u at *
  obtain ⟨k, fn, rd, rs1, rs2, imm, sz, sg⟩ := i
  simp only [Ins.cells] at TE ⊢
  go_enter Tryz.func22, Tryz.ntmps22
  have ST := Lib.hid (Kn.nil (S := Step.Nil) (W := W))
  go_wp2_with (first
    | ((with_reducible refine Step.gate_box (t := 44) rfl ?_); refine Step.fresh (cs := #[.int .i64 k, .int .i64 fn, .int .i64 rd, .int .i64 rs1, .int .i64 rs2, .int .i64 imm, .int .i64 sz, .bool sg]) (T := 44) rfl ?hr ?_; (case hr => first | (go_simp; done) | (go_simp; rfl)); intro g2 w1 b hg hb; replace ST := Lib.hid (ST.out.made b hg hb); clear b hb; clear hg)
    | ((with_reducible refine Step.gate_alloc (t := 40) rfl ?_); refine Step.freshAlloc rfl rfl (Duo.alloc_agg Duo.zero_two) ?_; (first | (have this := ST.out.duo; intro g7 w2 b hg hb; clear this) | intro g5 w2 b hg hb); replace ST := Lib.hid (ST.out.made b hg hb); clear b hb hg)
    | (go_at_call 35; (with_reducible refine (TM.out _ ST.out.below).mono ?_); rintro e wm ⟨h1, h2, F1, F2, rfl, d⟩; replace ST := Lib.hid (DK.start ST.out d); clear d)
    | ((with_reducible refine Step.gate_store (t := 40) rfl ?_); refine Step.storeAll (vs := #[.pointer (some ⟨h1, 0, none⟩), .pointer (some ⟨h2, 0, none⟩)]) ST.out.kn.at0 rfl rfl rfl rfl rfl size_two rfl rfl ?_; intro w3 nb m; replace ST := Lib.hid (ST.out.set (ST.out.kn.set0 nb m) m ⟨_, List.mem_cons_self .., rfl⟩ rfl); clear nb m)
    | (go_at_call 36; (with_reducible refine (tlb_new1 _).mono ?_); rintro e w' ⟨gt, rfl, hg, b, hb⟩; replace ST := Lib.hid (ST.out.made b hg hb); clear hg b hb)
    | (go_at_call 27; (with_reducible refine (TE.out _).mono ?_); rintro e w' ⟨rfl, hb⟩; replace ST := Lib.hid (ST.out.call hb); clear hb)
    | ((with_reducible refine Step.gate_load (t := 44) rfl ?_); refine Step.loadAll ST.out.kn.at3 rfl rfl rfl Tryz.underlying44 rfl size_inst ?_)
    | ((with_reducible refine Step.gate_load (t := 40) rfl ?_); refine Step.loadAll ST.out.kn.at1 rfl rfl rfl Tryz.underlying40 rfl size_two ?_)
    | (go_at_call 28; (with_reducible refine (Duo.wboth4 ST.out.duo 2147483648 u (by decide) (by have := HW.out.out; omega) (by decide)).mono ?_); rintro e w9 ⟨rfl, F1', F2', hd, f1, f2, m⟩; replace ST := Lib.hid (ST.out.duoTurn hd f1 f2 m); clear hd f1 f2 m)
    | ((with_reducible refine Step.gate_load (t := 37) rfl ?_); refine Step.load ST.out.kn.at1 rfl rfl rfl pl_pm rfl ?_)
    | (go_at_call 37; (with_reducible refine (core_new _ _ _).mono ?_); rintro e w' ⟨gc, rfl, hg, b, hb⟩; replace ST := Lib.hid (ST.out.made b hg hb); clear hg b hb))
  obtain ⟨mw, hm⟩ : ∃ x, x = wr (cm 1 f len) ((2147483648 : Int) - 2147483648).toNat 4 u := ⟨_, rfl⟩
  have hm2 : mw = wr (cm 1 f len) 0 4 u := hm
  rw [← hm] at ST
  clear hm
  ((with_reducible refine Sq.regionJ (id := 8) (J := fun j X => DK W X h1 h2 2147483648 1 mw mw F1' F2' [(gc, ccg h1 (.pointer (some ⟨gt, 0, none⟩)) 0 0 0 0 (.map none), TC), (gt, #[.int .i64 1, .slice none 0 0], 115), (g7, #[.pointer (some ⟨h1, 0, none⟩), .pointer (some ⟨h2, 0, none⟩)], 40), (g5, (match j with | 0 => #[.pointer none, .pointer none] | _ => #[.pointer (some ⟨h1, 0, none⟩), .pointer (some ⟨h2, 0, none⟩)]), 40), (g2, #[.int .i64 k, .int .i64 fn, .int .i64 rd, .int .i64 rs1, .int .i64 rs2, .int .i64 imm, .int .i64 sz, .bool sg], 44)]) ?hm1 7 [5] [.keep 0 0, .keep 0 0, .keep 0 1, .keep 0 1, .keep 0 0, .eff 0, .keep 1 1] ?hi1 ?hp1 ?hf1 ?hs1); (case hm1 => rfl); (case hi1 => exact (show DK W _ h1 h2 2147483648 1 mw mw F1' F2' [(gc, ccg h1 (.pointer (some ⟨gt, 0, none⟩)) 0 0 0 0 (.map none), TC), (gt, #[.int .i64 1, .slice none 0 0], 115), (g7, #[.pointer (some ⟨h1, 0, none⟩), .pointer (some ⟨h2, 0, none⟩)], 40), (g5, #[.pointer none, .pointer none], 40), (g2, #[.int .i64 k, .int .i64 fn, .int .i64 rd, .int .i64 rs1, .int .i64 rs2, .int .i64 imm, .int .i64 sz, .bool sg], 44)] from ST.out.call (Below.drew (Below.refl _ _)))); (case hp1 => kernel_rfl); (case hf1 => kernel_rfl); intro ops K hops hK; clear hops; dsimp only [List.take]; (repeat (first | (refine Sq.seqJ_move rfl rfl ?_; simp only [Act.put, Act.eval, Array.getD_eq_getD_getElem?, List.getElem?_toArray, List.getElem?_cons_zero, List.getElem?_cons_succ, Option.getD_some, List.setIfInBounds_toArray, List.set_cons_zero, List.set_cons_succ]) | (refine Sq.seqJ_check rfl rfl rfl ?_; simp only [Act.put, Act.eval, Array.getD_eq_getD_getElem?, List.getElem?_toArray, List.getElem?_cons_zero, List.getElem?_cons_succ, Option.getD_some, List.setIfInBounds_toArray, List.set_cons_zero, List.set_cons_succ]) | (refine Sq.seqJ_row (t := 40) (cs := fun _ => #[.pointer (some ⟨h1, 0, none⟩), .pointer (some ⟨h2, 0, none⟩)]) (fun j _ _ X hX => (DK.kn hX).at2) (Sq.wanted_none rfl) rfl rfl (fun _ => Sq.row_all _) Tryz.underlying40 rfl size_two ?_; simp only [Act.put, Act.eval, Array.getD_eq_getD_getElem?, List.getElem?_toArray, List.getElem?_cons_zero, List.getElem?_cons_succ, Option.getD_some, List.setIfInBounds_toArray, List.set_cons_zero, List.set_cons_succ]) | (refine Sq.seqJ_storeRow (g := g5) (k := 0) (cs := #[.pointer none, .pointer none]) (vs := #[.pointer (some ⟨h1, 0, none⟩), .pointer (some ⟨h2, 0, none⟩)]) (fun X hX => (DK.kn hX).at3) rfl rfl rfl rfl rfl size_two rfl rfl (fun X X' hX nb m => ?_) ?_; · exact DK.set hX (Kn.set3 (DK.kn hX) (show Blk X' g5 #[.pointer (some ⟨h1, 0, none⟩), .pointer (some ⟨h2, 0, none⟩)] 40 from nb) m) m ⟨_, List.mem_of_getElem? (i := 3) rfl, rfl⟩ rfl) | (refine' Sq.seqJ_pure rfl (fun X => _) _; rotate_left; (first | (go_simp; done) | (go_simp; rfl)); simp only [Act.put, Act.eval, Array.getD_eq_getD_getElem?, List.getElem?_toArray, List.getElem?_cons_zero, List.getElem?_cons_succ, Option.getD_some, List.setIfInBounds_toArray, List.set_cons_zero, List.set_cons_succ]))); refine Sq.seqJ_nil ?_; refine hK.out _ fun w1 hk => ?_; clear hK; replace ST := Lib.hid (show DK W w1 h1 h2 2147483648 1 mw mw F1' F2' [(gc, ccg h1 (.pointer (some ⟨gt, 0, none⟩)) 0 0 0 0 (.map none), TC), (gt, #[.int .i64 1, .slice none 0 0], 115), (g7, #[.pointer (some ⟨h1, 0, none⟩), .pointer (some ⟨h2, 0, none⟩)], 40), (g5, #[.pointer (some ⟨h1, 0, none⟩), .pointer (some ⟨h2, 0, none⟩)], 40), (g2, #[.int .i64 k, .int .i64 fn, .int .i64 rd, .int .i64 rs1, .int .i64 rs2, .int .i64 imm, .int .i64 sz, .bool sg], 44)] from hk); clear hk; dsimp only [List.drop])
  go_wp2
  all_goals subst hm2
  all_goals exact bodyPost_ret (results_t3 rfl _ _ _ _ _ _ rfl ST.out.kn.at3 Tryz.underlying40 rfl size_two) rfl ⟨gc, gt, h1, h2, F1', F2', rfl, ST.out.sub (List.Sublist.cons_cons _ (List.Sublist.cons_cons _ (List.nil_sublist _)))⟩
end Go.Proofs.YthkodjkkcgdmfaaGreat.Hart
end
