/- Parts of the walks and laws for the claim: Key; no conditions beyond the theorems' own. -/
import Derived.Test.YtchpnbckgofiaaaGreatQ15
section
namespace Go.Proofs.YtchpnbckgofiaaaGreat.Enc
open Go Go.RowKit
set_option linter.unusedVariables false
set_option linter.unusedSimpArgs false
set_option maxRecDepth 100000
/-- The word that encode puts together. -/
def encP (i : Ins) : Int :=
  if i.k = 1 then bor (bor 55 (regW i.rd i.rs1 i.rs2)) (pt (i.imm / 4096) 20 12) else
  if i.k = 2 then bor (bor 23 (regW i.rd i.rs1 i.rs2)) (pt (i.imm / 4096) 20 12) else
  if i.k = 3 then bor (bor (bor (bor (bor 111 (regW i.rd i.rs1 i.rs2)) (pt (i.imm / 1048576) 1 31)) (pt (i.imm / 4096) 8 12)) (pt (i.imm / 2048) 1 20)) (pt (i.imm / 2) 10 21) else
  if i.k = 4 then bor (bor 103 (regW i.rd i.rs1 i.rs2)) (pt i.imm 12 20) else
  if i.k = 5 then bor (bor (bor (bor (bor (bor 99 (regW i.rd i.rs1 i.rs2)) (pt (ix brI i.fn) 3 12)) (pt (i.imm / 4096) 1 31)) (pt (i.imm / 2048) 1 7)) (pt (i.imm / 32) 6 25)) (pt (i.imm / 2) 4 8) else
  if i.k = 6 then (if i.sg then bor (bor (bor 3 (regW i.rd i.rs1 i.rs2)) (pt (ix ld4 i.sz) 3 12)) (pt i.imm 12 20) else bor (bor (bor 3 (regW i.rd i.rs1 i.rs2)) (pt (ix ld4 i.sz + 4) 3 12)) (pt i.imm 12 20)) else
  if i.k = 7 then bor (bor (bor (bor 35 (regW i.rd i.rs1 i.rs2)) (pt (ix ld4 i.sz) 3 12)) (pt (i.imm / 32) 7 25)) (pt i.imm 5 7) else
  if i.k = 8 then bor (pk rwL i.fn) (regW i.rd i.rs1 i.rs2) else
  if i.k = 9 then bor (encI i.fn i.imm) (regW i.rd i.rs1 i.rs2) else
  if i.k = 10 then 15 else
  if i.k = 11 then 115 else
  if i.k = 12 then 1048691 else
  if i.k = 13 then bor (bor (bor 115 (bits .and .u32 (regW i.rd i.rs1 i.rs2) 1048575)) (pt i.fn 2 12)) (pt i.imm 12 20) else
  if i.k = 14 then bor (bor (bor 16499 (bits .and .u32 (regW i.rd i.rs1 i.rs2) 1048575)) (pt i.fn 2 12)) (pt i.imm 12 20) else
  if i.k = 15 then bor (bor 268435503 (regW i.rd i.rs1 i.rs2)) (pt (ix at2 i.sz + 2) 3 12) else
  if i.k = 16 then bor (bor 402653231 (regW i.rd i.rs1 i.rs2)) (pt (ix at2 i.sz + 2) 3 12) else
  if i.k = 17 then bor (bor (bor 47 (regW i.rd i.rs1 i.rs2)) (pt (ix at2 i.sz + 2) 3 12)) (pt (ix amL i.fn) 5 27) else
  if i.k = 18 then 270532723 else
  if i.k = 19 then 273678451 else
  if i.k = 20 then bor 301990003 (regW i.rd i.rs1 i.rs2) else
  0
theorem encP_w (i : Ins) : W32 (encP i) := by
  obtain ⟨k, fn, rd, rs1, rs2, imm, sz, sg⟩ := i
  by_cases n1 : k = 1
  · subst n1
    exact bor_w _ _
  by_cases n2 : k = 2
  · subst n2
    exact bor_w _ _
  by_cases n3 : k = 3
  · subst n3
    exact bor_w _ _
  by_cases n4 : k = 4
  · subst n4
    exact bor_w _ _
  by_cases n5 : k = 5
  · subst n5
    exact bor_w _ _
  by_cases n6 : k = 6
  · subst n6
    cases sg <;> exact bor_w _ _
  by_cases n7 : k = 7
  · subst n7
    exact bor_w _ _
  by_cases n8 : k = 8
  · subst n8
    exact bor_w _ _
  by_cases n9 : k = 9
  · subst n9
    exact bor_w _ _
  by_cases n10 : k = 10
  · subst n10
    exact (show W32 15 from ⟨by decide, by decide⟩)
  by_cases n11 : k = 11
  · subst n11
    exact (show W32 115 from ⟨by decide, by decide⟩)
  by_cases n12 : k = 12
  · subst n12
    exact (show W32 1048691 from ⟨by decide, by decide⟩)
  by_cases n13 : k = 13
  · subst n13
    exact bor_w _ _
  by_cases n14 : k = 14
  · subst n14
    exact bor_w _ _
  by_cases n15 : k = 15
  · subst n15
    exact bor_w _ _
  by_cases n16 : k = 16
  · subst n16
    exact bor_w _ _
  by_cases n17 : k = 17
  · subst n17
    exact bor_w _ _
  by_cases n18 : k = 18
  · subst n18
    exact (show W32 270532723 from ⟨by decide, by decide⟩)
  by_cases n19 : k = 19
  · subst n19
    exact (show W32 273678451 from ⟨by decide, by decide⟩)
  by_cases n20 : k = 20
  · subst n20
    exact bor_w _ _
  rw [show encP ⟨k, fn, rd, rs1, rs2, imm, sz, sg⟩ = 0 from by simp [encP, n1, n2, n3, n4, n5, n6, n7, n8, n9, n10, n11, n12, n13, n14, n15, n16, n17, n18, n19, n20]]
  exact ⟨by decide, by decide⟩
/-- The word that an instruction is written as: the one it was read from, without the idle bits. -/
def cn (a : Int) : Int := if fd a 6 0 = 15 then 15 else if fd a 6 0 = 47 then a - fd a 26 25 * 33554432 else a
theorem ix_br {x : Int} (h0 : 0 ≤ x ∧ x < 8) (h : pk brL x ≠ 0) : ix brI (pk brL x) = x := by
  obtain h | h | h | h | h | h | h | h : x = 0 ∨ x = 1 ∨ x = 2 ∨ x = 3 ∨ x = 4 ∨ x = 5 ∨ x = 6 ∨ x = 7 := by omega
  all_goals (subst h; first | rfl | (exfalso; exact h rfl))
theorem ix_ld {x : Int} (h0 : 0 ≤ x) (h : x < 4) : ix ld4 (pk ldL x) = x ∧ ix ld4 (pk stL x) = x := by
  obtain h | h | h | h : x = 0 ∨ x = 1 ∨ x = 2 ∨ x = 3 := by omega
  all_goals (subst h; exact ⟨rfl, rfl⟩)
theorem ix_ld' {x : Int} (h0 : 4 ≤ x) (h : x < 7) : ix ld4 (pk ldL x) + 4 = x := by
  obtain h | h | h : x = 4 ∨ x = 5 ∨ x = 6 := by omega
  all_goals (subst h; rfl)
theorem ix_im {x : Int} (h0 : 0 ≤ x ∧ x < 8) (h1 : x ≠ 1) (h5 : x ≠ 5) : ix imL (pk imL x) = x ∧ encI (pk imL x) = fun imm => bor (bor 19 (pt imm 12 20)) (pt x 3 12) := by
  obtain h | h | h | h | h | h : x = 0 ∨ x = 2 ∨ x = 3 ∨ x = 4 ∨ x = 6 ∨ x = 7 := by omega
  all_goals (subst h; exact ⟨rfl, rfl⟩)
theorem rw_reg : ∀ x : Fin 8, ∀ wide : Bool, ∀ s ∈ ([0, 32, 1] : List Int), regF wide s x.val ≠ 0 → pk rwL (regF wide s x.val) = (if wide then 51 else 59) + x.val * 4096 + s * 33554432 := by decide
theorem regF_s {wide : Bool} {s x : Int} (h : regF wide s x ≠ 0) : s ∈ ([0, 32, 1] : List Int) := by
  by_cases h0 : s = 0
  · simp [h0]
  by_cases h1 : s = 32
  · simp [h1]
  by_cases h2 : s = 1
  · simp [h2]
  exact absurd (by cases wide <;> simp [regF, h0, h1, h2]) h
theorem rw_regF {wide : Bool} {s x : Int} (hx : 0 ≤ x ∧ x < 8) (h : regF wide s x ≠ 0) : pk rwL (regF wide s x) = (if wide then 51 else 59) + x * 4096 + s * 33554432 := by
  have := rw_reg ⟨x.toNat, by omega⟩ wide s (regF_s h)
  have e : ((x.toNat : Nat) : Int) = x := Int.toNat_of_nonneg hx.1
  simp only [e] at this
  exact this h
theorem k55 (a : Int) (ha : 0 ≤ a ∧ a < 4294967296) (hop : fd a 6 0 = 55)  : bor (bor 55 (regW (fd a 11 7) 0 0)) (pt (immU a / 4096) 20 12) = a := by
  have e_op := Lib.hid (hop.symm.trans (show fd a 6 0 = a / 1 % 128 from rfl))
  have HA := Lib.hid ha
  clear hop ha
  have e_rd := Lib.hid (show fd a 11 7 = a / 128 % 32 from rfl)
  have d_rd := fd_lit (a := a) (h := 11) (l := 7) (n := 32) rfl
  have e_u20 := Lib.hid (show fd a 31 12 = a / 4096 % 1048576 from rfl)
  have d_u20 := fd_lit (a := a) (h := 31) (l := 12) (n := 1048576) rfl
  obtain ⟨m, hmm⟩ : ∃ m, immU a = m := ⟨_, rfl⟩
  have hm : m = (if ((fd a 31 12) * 4096) < 2147483648 then ((fd a 31 12) * 4096) else ((fd a 31 12) * 4096) - 4294967296) := hmm.symm
  rw [hmm]
  clear hmm
  generalize fd a 11 7 = rd at *
  generalize fd a 31 12 = u20 at *
  unfold regW
  have r_rd : pt (rd) 5 7 = rd * 128 := pt_of 5 7 32 128 rd rfl rfl (by omega)
  have r_rs1 : pt 0 5 15 = 0 := pt0 5 15
  have r_rs2 : pt 0 5 20 = 0 := pt0 5 20
  have hm2 : m = (u20 * 4096) ∨ m = (u20 * 4096) - 4294967296 := by split at hm <;> omega
  clear hm
  have p0 : pt (m / 4096) 20 12 = u20 * 4096 := pt_of 20 12 1048576 4096 (u20) rfl rfl (by omega)
  rw [r_rd, r_rs1, r_rs2, p0]
  have z1 : ∀ x : Int, 0 ≤ x → x < 4294967296 → bor x 0 = x := fun x h1 h2 => bor_zero ⟨h1, h2⟩
  have zr : bor (bor (rd * 128) (0)) (0) = rd * 128 := by
    rw [z1 (rd * 128) (by omega) (by omega), z1 (rd * 128) (by omega) (by omega)]
  rw [zr]
  have s0 : bor (55) (rd * 128) = 55 + rd * 128 := bor_step 7 128 rfl ⟨by omega, by omega⟩ (by omega) (by omega) (by decide)
  have s1 : bor (55 + rd * 128) (u20 * 4096) = 55 + rd * 128 + u20 * 4096 := bor_step 12 4096 rfl ⟨by omega, by omega⟩ (by omega) (by omega) (by decide)
  rw [show bor (bor 55 (rd * 128)) (u20 * 4096) = bor (bor (55) (rd * 128)) (u20 * 4096) from by ac_rfl, s0, s1]
  have ha := HA.out
  have e0 := e_op.out
  have f0 := e_rd.out
  have f1 := e_u20.out
  clear HA e_op d_rd d_u20
  omega
theorem k111 (a : Int) (ha : 0 ≤ a ∧ a < 4294967296) (hop : fd a 6 0 = 111)  : bor (bor (bor (bor (bor 111 (regW (fd a 11 7) 0 0)) (pt (immJ a / 1048576) 1 31)) (pt (immJ a / 4096) 8 12)) (pt (immJ a / 2048) 1 20)) (pt (immJ a / 2) 10 21) = a := by
  have e_op := Lib.hid (hop.symm.trans (show fd a 6 0 = a / 1 % 128 from rfl))
  have HA := Lib.hid ha
  clear hop ha
  have e_rd := Lib.hid (show fd a 11 7 = a / 128 % 32 from rfl)
  have d_rd := fd_lit (a := a) (h := 11) (l := 7) (n := 32) rfl
  have e_j19 := Lib.hid (show fd a 19 12 = a / 4096 % 256 from rfl)
  have d_j19 := fd_lit (a := a) (h := 19) (l := 12) (n := 256) rfl
  have e_j20 := Lib.hid (show fd a 20 20 = a / 1048576 % 2 from rfl)
  have d_j20 := fd_lit (a := a) (h := 20) (l := 20) (n := 2) rfl
  have e_j30 := Lib.hid (show fd a 30 21 = a / 2097152 % 1024 from rfl)
  have d_j30 := fd_lit (a := a) (h := 30) (l := 21) (n := 1024) rfl
  have e_b31 := Lib.hid (show fd a 31 31 = a / 2147483648 % 2 from rfl)
  have d_b31 := fd_lit (a := a) (h := 31) (l := 31) (n := 2) rfl
  obtain ⟨m, hmm⟩ : ∃ m, immJ a = m := ⟨_, rfl⟩
  have hm : m = (if ((fd a 31 31) * 1048576 + (fd a 19 12) * 4096 + (fd a 20 20) * 2048 + (fd a 30 21) * 2) < 1048576 then ((fd a 31 31) * 1048576 + (fd a 19 12) * 4096 + (fd a 20 20) * 2048 + (fd a 30 21) * 2) else ((fd a 31 31) * 1048576 + (fd a 19 12) * 4096 + (fd a 20 20) * 2048 + (fd a 30 21) * 2) - 2097152) := hmm.symm
  rw [hmm]
  clear hmm
  generalize fd a 11 7 = rd at *
  generalize fd a 19 12 = j19 at *
  generalize fd a 20 20 = j20 at *
  generalize fd a 30 21 = j30 at *
  generalize fd a 31 31 = b31 at *
  unfold regW
  have r_rd : pt (rd) 5 7 = rd * 128 := pt_of 5 7 32 128 rd rfl rfl (by omega)
  have r_rs1 : pt 0 5 15 = 0 := pt0 5 15
  have r_rs2 : pt 0 5 20 = 0 := pt0 5 20
  have hm2 : m = (b31 * 1048576 + j19 * 4096 + j20 * 2048 + j30 * 2) ∨ m = (b31 * 1048576 + j19 * 4096 + j20 * 2048 + j30 * 2) - 2097152 := by split at hm <;> omega
  clear hm
  have p0 : pt (m / 1048576) 1 31 = b31 * 2147483648 := pt_of 1 31 2 2147483648 (b31) rfl rfl (by omega)
  have p1 : pt (m / 4096) 8 12 = j19 * 4096 := pt_of 8 12 256 4096 (j19) rfl rfl (by omega)
  have p2 : pt (m / 2048) 1 20 = j20 * 1048576 := pt_of 1 20 2 1048576 (j20) rfl rfl (by omega)
  have p3 : pt (m / 2) 10 21 = j30 * 2097152 := pt_of 10 21 1024 2097152 (j30) rfl rfl (by omega)
  rw [r_rd, r_rs1, r_rs2, p0, p1, p2, p3]
  have z1 : ∀ x : Int, 0 ≤ x → x < 4294967296 → bor x 0 = x := fun x h1 h2 => bor_zero ⟨h1, h2⟩
  have zr : bor (bor (rd * 128) (0)) (0) = rd * 128 := by
    rw [z1 (rd * 128) (by omega) (by omega), z1 (rd * 128) (by omega) (by omega)]
  rw [zr]
  have s0 : bor (111) (rd * 128) = 111 + rd * 128 := bor_step 7 128 rfl ⟨by omega, by omega⟩ (by omega) (by omega) (by decide)
  have s1 : bor (111 + rd * 128) (j19 * 4096) = 111 + rd * 128 + j19 * 4096 := bor_step 12 4096 rfl ⟨by omega, by omega⟩ (by omega) (by omega) (by decide)
  have s2 : bor (111 + rd * 128 + j19 * 4096) (j20 * 1048576) = 111 + rd * 128 + j19 * 4096 + j20 * 1048576 := bor_step 20 1048576 rfl ⟨by omega, by omega⟩ (by omega) (by omega) (by decide)
  have s3 : bor (111 + rd * 128 + j19 * 4096 + j20 * 1048576) (j30 * 2097152) = 111 + rd * 128 + j19 * 4096 + j20 * 1048576 + j30 * 2097152 := bor_step 21 2097152 rfl ⟨by omega, by omega⟩ (by omega) (by omega) (by decide)
  have s4 : bor (111 + rd * 128 + j19 * 4096 + j20 * 1048576 + j30 * 2097152) (b31 * 2147483648) = 111 + rd * 128 + j19 * 4096 + j20 * 1048576 + j30 * 2097152 + b31 * 2147483648 := bor_step 31 2147483648 rfl ⟨by omega, by omega⟩ (by omega) (by omega) (by decide)
  rw [show bor (bor (bor (bor (bor 111 (rd * 128)) (b31 * 2147483648)) (j19 * 4096)) (j20 * 1048576)) (j30 * 2097152) = bor (bor (bor (bor (bor (111) (rd * 128)) (j19 * 4096)) (j20 * 1048576)) (j30 * 2097152)) (b31 * 2147483648) from by ac_rfl, s0, s1, s2, s3, s4]
  have ha := HA.out
  have e0 := e_op.out
  have f0 := e_rd.out
  have f1 := e_j19.out
  have f2 := e_j20.out
  have f3 := e_j30.out
  have f4 := e_b31.out
  clear HA e_op d_rd d_j19 d_j20 d_j30 d_b31
  omega
theorem k103 (a : Int) (ha : 0 ≤ a ∧ a < 4294967296) (hop : fd a 6 0 = 103) (h3 : (fd a 14 12) = 0) : bor (bor 103 (regW (fd a 11 7) (fd a 19 15) 0)) (pt (immI a) 12 20) = a := by
  have e_op := Lib.hid (hop.symm.trans (show fd a 6 0 = a / 1 % 128 from rfl))
  have HA := Lib.hid ha
  clear hop ha
  have e_rd := Lib.hid (show fd a 11 7 = a / 128 % 32 from rfl)
  have d_rd := fd_lit (a := a) (h := 11) (l := 7) (n := 32) rfl
  have e_rs1 := Lib.hid (show fd a 19 15 = a / 32768 % 32 from rfl)
  have d_rs1 := fd_lit (a := a) (h := 19) (l := 15) (n := 32) rfl
  have e_i12 := Lib.hid (show fd a 31 20 = a / 1048576 % 4096 from rfl)
  have d_i12 := fd_lit (a := a) (h := 31) (l := 20) (n := 4096) rfl
  have e_f3 := Lib.hid (show fd a 14 12 = a / 4096 % 8 from rfl)
  have d_f3 := fd_lit (a := a) (h := 14) (l := 12) (n := 8) rfl
  obtain ⟨m, hmm⟩ : ∃ m, immI a = m := ⟨_, rfl⟩
  have hm : m = (if ((fd a 31 20)) < 2048 then ((fd a 31 20)) else ((fd a 31 20)) - 4096) := hmm.symm
  rw [hmm]
  clear hmm
  generalize fd a 11 7 = rd at *
  generalize fd a 19 15 = rs1 at *
  generalize fd a 31 20 = i12 at *
  generalize fd a 14 12 = f3 at *
  unfold regW
  have r_rd : pt (rd) 5 7 = rd * 128 := pt_of 5 7 32 128 rd rfl rfl (by omega)
  have r_rs1 : pt (rs1) 5 15 = rs1 * 32768 := pt_of 5 15 32 32768 rs1 rfl rfl (by omega)
  have r_rs2 : pt 0 5 20 = 0 := pt0 5 20
  have hm2 : m = (i12) ∨ m = (i12) - 4096 := by split at hm <;> omega
  clear hm
  have p0 : pt (m) 12 20 = i12 * 1048576 := pt_of 12 20 4096 1048576 (i12) rfl rfl (by omega)
  rw [r_rd, r_rs1, r_rs2, p0]
  have z1 : ∀ x : Int, 0 ≤ x → x < 4294967296 → bor x 0 = x := fun x h1 h2 => bor_zero ⟨h1, h2⟩
  have zr : bor (bor (rd * 128) (rs1 * 32768)) (0) = bor (rd * 128) (rs1 * 32768) := by
    exact z1 _ (bor_w _ _).out.1 (bor_w _ _).out.2
  rw [zr]
  have s0 : bor (103) (rd * 128) = 103 + rd * 128 := bor_step 7 128 rfl ⟨by omega, by omega⟩ (by omega) (by omega) (by decide)
  have s1 : bor (103 + rd * 128) (rs1 * 32768) = 103 + rd * 128 + rs1 * 32768 := bor_step 15 32768 rfl ⟨by omega, by omega⟩ (by omega) (by omega) (by decide)
  have s2 : bor (103 + rd * 128 + rs1 * 32768) (i12 * 1048576) = 103 + rd * 128 + rs1 * 32768 + i12 * 1048576 := bor_step 20 1048576 rfl ⟨by omega, by omega⟩ (by omega) (by omega) (by decide)
  rw [show bor (bor 103 (bor (rd * 128) (rs1 * 32768))) (i12 * 1048576) = bor (bor (bor (103) (rd * 128)) (rs1 * 32768)) (i12 * 1048576) from by ac_rfl, s0, s1, s2]
  have ha := HA.out
  have e0 := e_op.out
  have f0 := e_rd.out
  have f1 := e_rs1.out
  have f2 := e_i12.out
  have f3 := e_f3.out
  clear HA e_op d_rd d_rs1 d_i12
  omega
theorem k99 (a : Int) (ha : 0 ≤ a ∧ a < 4294967296) (hop : fd a 6 0 = 99)  : bor (bor (bor (bor (bor (bor 99 (regW 0 (fd a 19 15) (fd a 24 20))) (pt ((fd a 14 12)) 3 12)) (pt (immB a / 4096) 1 31)) (pt (immB a / 2048) 1 7)) (pt (immB a / 32) 6 25)) (pt (immB a / 2) 4 8) = a := by
  have e_op := Lib.hid (hop.symm.trans (show fd a 6 0 = a / 1 % 128 from rfl))
  have HA := Lib.hid ha
  clear hop ha
  have e_b7 := Lib.hid (show fd a 7 7 = a / 128 % 2 from rfl)
  have d_b7 := fd_lit (a := a) (h := 7) (l := 7) (n := 2) rfl
  have e_b11 := Lib.hid (show fd a 11 8 = a / 256 % 16 from rfl)
  have d_b11 := fd_lit (a := a) (h := 11) (l := 8) (n := 16) rfl
  have e_f3 := Lib.hid (show fd a 14 12 = a / 4096 % 8 from rfl)
  have d_f3 := fd_lit (a := a) (h := 14) (l := 12) (n := 8) rfl
  have e_rs1 := Lib.hid (show fd a 19 15 = a / 32768 % 32 from rfl)
  have d_rs1 := fd_lit (a := a) (h := 19) (l := 15) (n := 32) rfl
  have e_rs2 := Lib.hid (show fd a 24 20 = a / 1048576 % 32 from rfl)
  have d_rs2 := fd_lit (a := a) (h := 24) (l := 20) (n := 32) rfl
  have e_b30 := Lib.hid (show fd a 30 25 = a / 33554432 % 64 from rfl)
  have d_b30 := fd_lit (a := a) (h := 30) (l := 25) (n := 64) rfl
  have e_b31 := Lib.hid (show fd a 31 31 = a / 2147483648 % 2 from rfl)
  have d_b31 := fd_lit (a := a) (h := 31) (l := 31) (n := 2) rfl
  obtain ⟨m, hmm⟩ : ∃ m, immB a = m := ⟨_, rfl⟩
  have hm : m = (if ((fd a 31 31) * 4096 + (fd a 7 7) * 2048 + (fd a 30 25) * 32 + (fd a 11 8) * 2) < 4096 then ((fd a 31 31) * 4096 + (fd a 7 7) * 2048 + (fd a 30 25) * 32 + (fd a 11 8) * 2) else ((fd a 31 31) * 4096 + (fd a 7 7) * 2048 + (fd a 30 25) * 32 + (fd a 11 8) * 2) - 8192) := hmm.symm
  rw [hmm]
  clear hmm
  generalize fd a 7 7 = b7 at *
  generalize fd a 11 8 = b11 at *
  generalize fd a 14 12 = f3 at *
  generalize fd a 19 15 = rs1 at *
  generalize fd a 24 20 = rs2 at *
  generalize fd a 30 25 = b30 at *
  generalize fd a 31 31 = b31 at *
  unfold regW
  have r_rd : pt 0 5 7 = 0 := pt0 5 7
  have r_rs1 : pt (rs1) 5 15 = rs1 * 32768 := pt_of 5 15 32 32768 rs1 rfl rfl (by omega)
  have r_rs2 : pt (rs2) 5 20 = rs2 * 1048576 := pt_of 5 20 32 1048576 rs2 rfl rfl (by omega)
  have hm2 : m = (b31 * 4096 + b7 * 2048 + b30 * 32 + b11 * 2) ∨ m = (b31 * 4096 + b7 * 2048 + b30 * 32 + b11 * 2) - 8192 := by split at hm <;> omega
  clear hm
  have p0 : pt (f3) 3 12 = f3 * 4096 := pt_of 3 12 8 4096 (f3) rfl rfl (by omega)
  have p1 : pt (m / 4096) 1 31 = b31 * 2147483648 := pt_of 1 31 2 2147483648 (b31) rfl rfl (by omega)
  have p2 : pt (m / 2048) 1 7 = b7 * 128 := pt_of 1 7 2 128 (b7) rfl rfl (by omega)
  have p3 : pt (m / 32) 6 25 = b30 * 33554432 := pt_of 6 25 64 33554432 (b30) rfl rfl (by omega)
  have p4 : pt (m / 2) 4 8 = b11 * 256 := pt_of 4 8 16 256 (b11) rfl rfl (by omega)
  rw [r_rd, r_rs1, r_rs2, p0, p1, p2, p3, p4]
  have z1 : ∀ x : Int, 0 ≤ x → x < 4294967296 → bor x 0 = x := fun x h1 h2 => bor_zero ⟨h1, h2⟩
  have zr : bor (bor (0) (rs1 * 32768)) (rs2 * 1048576) = bor (rs1 * 32768) (rs2 * 1048576) := by
    rw [bor_comm 0, z1 (rs1 * 32768) (by omega) (by omega)]
  rw [zr]
  have s0 : bor (99) (b7 * 128) = 99 + b7 * 128 := bor_step 7 128 rfl ⟨by omega, by omega⟩ (by omega) (by omega) (by decide)
  have s1 : bor (99 + b7 * 128) (b11 * 256) = 99 + b7 * 128 + b11 * 256 := bor_step 8 256 rfl ⟨by omega, by omega⟩ (by omega) (by omega) (by decide)
  have s2 : bor (99 + b7 * 128 + b11 * 256) (f3 * 4096) = 99 + b7 * 128 + b11 * 256 + f3 * 4096 := bor_step 12 4096 rfl ⟨by omega, by omega⟩ (by omega) (by omega) (by decide)
  have s3 : bor (99 + b7 * 128 + b11 * 256 + f3 * 4096) (rs1 * 32768) = 99 + b7 * 128 + b11 * 256 + f3 * 4096 + rs1 * 32768 := bor_step 15 32768 rfl ⟨by omega, by omega⟩ (by omega) (by omega) (by decide)
  have s4 : bor (99 + b7 * 128 + b11 * 256 + f3 * 4096 + rs1 * 32768) (rs2 * 1048576) = 99 + b7 * 128 + b11 * 256 + f3 * 4096 + rs1 * 32768 + rs2 * 1048576 := bor_step 20 1048576 rfl ⟨by omega, by omega⟩ (by omega) (by omega) (by decide)
  have s5 : bor (99 + b7 * 128 + b11 * 256 + f3 * 4096 + rs1 * 32768 + rs2 * 1048576) (b30 * 33554432) = 99 + b7 * 128 + b11 * 256 + f3 * 4096 + rs1 * 32768 + rs2 * 1048576 + b30 * 33554432 := bor_step 25 33554432 rfl ⟨by omega, by omega⟩ (by omega) (by omega) (by decide)
  have s6 : bor (99 + b7 * 128 + b11 * 256 + f3 * 4096 + rs1 * 32768 + rs2 * 1048576 + b30 * 33554432) (b31 * 2147483648) = 99 + b7 * 128 + b11 * 256 + f3 * 4096 + rs1 * 32768 + rs2 * 1048576 + b30 * 33554432 + b31 * 2147483648 := bor_step 31 2147483648 rfl ⟨by omega, by omega⟩ (by omega) (by omega) (by decide)
  rw [show bor (bor (bor (bor (bor (bor 99 (bor (rs1 * 32768) (rs2 * 1048576))) (f3 * 4096)) (b31 * 2147483648)) (b7 * 128)) (b30 * 33554432)) (b11 * 256) = bor (bor (bor (bor (bor (bor (bor (99) (b7 * 128)) (b11 * 256)) (f3 * 4096)) (rs1 * 32768)) (rs2 * 1048576)) (b30 * 33554432)) (b31 * 2147483648) from by ac_rfl, s0, s1, s2, s3, s4, s5, s6]
  have ha := HA.out
  have e0 := e_op.out
  have f0 := e_b7.out
  have f1 := e_b11.out
  have f2 := e_f3.out
  have f3 := e_rs1.out
  have f4 := e_rs2.out
  have f5 := e_b30.out
  have f6 := e_b31.out
  clear HA e_op d_b7 d_b11 d_f3 d_rs1 d_rs2 d_b30 d_b31
  omega
theorem k3 (a : Int) (ha : 0 ≤ a ∧ a < 4294967296) (hop : fd a 6 0 = 3)  : bor (bor (bor 3 (regW (fd a 11 7) (fd a 19 15) 0)) (pt ((fd a 14 12)) 3 12)) (pt (immI a) 12 20) = a := by
  have e_op := Lib.hid (hop.symm.trans (show fd a 6 0 = a / 1 % 128 from rfl))
  have HA := Lib.hid ha
  clear hop ha
  have e_rd := Lib.hid (show fd a 11 7 = a / 128 % 32 from rfl)
  have d_rd := fd_lit (a := a) (h := 11) (l := 7) (n := 32) rfl
  have e_f3 := Lib.hid (show fd a 14 12 = a / 4096 % 8 from rfl)
  have d_f3 := fd_lit (a := a) (h := 14) (l := 12) (n := 8) rfl
  have e_rs1 := Lib.hid (show fd a 19 15 = a / 32768 % 32 from rfl)
  have d_rs1 := fd_lit (a := a) (h := 19) (l := 15) (n := 32) rfl
  have e_i12 := Lib.hid (show fd a 31 20 = a / 1048576 % 4096 from rfl)
  have d_i12 := fd_lit (a := a) (h := 31) (l := 20) (n := 4096) rfl
  obtain ⟨m, hmm⟩ : ∃ m, immI a = m := ⟨_, rfl⟩
  have hm : m = (if ((fd a 31 20)) < 2048 then ((fd a 31 20)) else ((fd a 31 20)) - 4096) := hmm.symm
  rw [hmm]
  clear hmm
  generalize fd a 11 7 = rd at *
  generalize fd a 14 12 = f3 at *
  generalize fd a 19 15 = rs1 at *
  generalize fd a 31 20 = i12 at *
  unfold regW
  have r_rd : pt (rd) 5 7 = rd * 128 := pt_of 5 7 32 128 rd rfl rfl (by omega)
  have r_rs1 : pt (rs1) 5 15 = rs1 * 32768 := pt_of 5 15 32 32768 rs1 rfl rfl (by omega)
  have r_rs2 : pt 0 5 20 = 0 := pt0 5 20
  have hm2 : m = (i12) ∨ m = (i12) - 4096 := by split at hm <;> omega
  clear hm
  have p0 : pt (f3) 3 12 = f3 * 4096 := pt_of 3 12 8 4096 (f3) rfl rfl (by omega)
  have p1 : pt (m) 12 20 = i12 * 1048576 := pt_of 12 20 4096 1048576 (i12) rfl rfl (by omega)
  rw [r_rd, r_rs1, r_rs2, p0, p1]
  have z1 : ∀ x : Int, 0 ≤ x → x < 4294967296 → bor x 0 = x := fun x h1 h2 => bor_zero ⟨h1, h2⟩
  have zr : bor (bor (rd * 128) (rs1 * 32768)) (0) = bor (rd * 128) (rs1 * 32768) := by
    exact z1 _ (bor_w _ _).out.1 (bor_w _ _).out.2
  rw [zr]
  have s0 : bor (3) (rd * 128) = 3 + rd * 128 := bor_step 7 128 rfl ⟨by omega, by omega⟩ (by omega) (by omega) (by decide)
  have s1 : bor (3 + rd * 128) (f3 * 4096) = 3 + rd * 128 + f3 * 4096 := bor_step 12 4096 rfl ⟨by omega, by omega⟩ (by omega) (by omega) (by decide)
  have s2 : bor (3 + rd * 128 + f3 * 4096) (rs1 * 32768) = 3 + rd * 128 + f3 * 4096 + rs1 * 32768 := bor_step 15 32768 rfl ⟨by omega, by omega⟩ (by omega) (by omega) (by decide)
  have s3 : bor (3 + rd * 128 + f3 * 4096 + rs1 * 32768) (i12 * 1048576) = 3 + rd * 128 + f3 * 4096 + rs1 * 32768 + i12 * 1048576 := bor_step 20 1048576 rfl ⟨by omega, by omega⟩ (by omega) (by omega) (by decide)
  rw [show bor (bor (bor 3 (bor (rd * 128) (rs1 * 32768))) (f3 * 4096)) (i12 * 1048576) = bor (bor (bor (bor (3) (rd * 128)) (f3 * 4096)) (rs1 * 32768)) (i12 * 1048576) from by ac_rfl, s0, s1, s2, s3]
  have ha := HA.out
  have e0 := e_op.out
  have f0 := e_rd.out
  have f1 := e_f3.out
  have f2 := e_rs1.out
  have f3 := e_i12.out
  clear HA e_op d_rd d_f3 d_rs1 d_i12
  omega
theorem k35 (a : Int) (ha : 0 ≤ a ∧ a < 4294967296) (hop : fd a 6 0 = 35)  : bor (bor (bor (bor 35 (regW 0 (fd a 19 15) (fd a 24 20))) (pt ((fd a 14 12)) 3 12)) (pt (immS a / 32) 7 25)) (pt (immS a) 5 7) = a := by
  have e_op := Lib.hid (hop.symm.trans (show fd a 6 0 = a / 1 % 128 from rfl))
  have HA := Lib.hid ha
  clear hop ha
  have e_rd := Lib.hid (show fd a 11 7 = a / 128 % 32 from rfl)
  have d_rd := fd_lit (a := a) (h := 11) (l := 7) (n := 32) rfl
  have e_f3 := Lib.hid (show fd a 14 12 = a / 4096 % 8 from rfl)
  have d_f3 := fd_lit (a := a) (h := 14) (l := 12) (n := 8) rfl
  have e_rs1 := Lib.hid (show fd a 19 15 = a / 32768 % 32 from rfl)
  have d_rs1 := fd_lit (a := a) (h := 19) (l := 15) (n := 32) rfl
  have e_rs2 := Lib.hid (show fd a 24 20 = a / 1048576 % 32 from rfl)
  have d_rs2 := fd_lit (a := a) (h := 24) (l := 20) (n := 32) rfl
  have e_f7 := Lib.hid (show fd a 31 25 = a / 33554432 % 128 from rfl)
  have d_f7 := fd_lit (a := a) (h := 31) (l := 25) (n := 128) rfl
  obtain ⟨m, hmm⟩ : ∃ m, immS a = m := ⟨_, rfl⟩
  have hm : m = (if ((fd a 31 25) * 32 + (fd a 11 7)) < 2048 then ((fd a 31 25) * 32 + (fd a 11 7)) else ((fd a 31 25) * 32 + (fd a 11 7)) - 4096) := hmm.symm
  rw [hmm]
  clear hmm
  generalize fd a 11 7 = rd at *
  generalize fd a 14 12 = f3 at *
  generalize fd a 19 15 = rs1 at *
  generalize fd a 24 20 = rs2 at *
  generalize fd a 31 25 = f7 at *
  unfold regW
  have r_rd : pt 0 5 7 = 0 := pt0 5 7
  have r_rs1 : pt (rs1) 5 15 = rs1 * 32768 := pt_of 5 15 32 32768 rs1 rfl rfl (by omega)
  have r_rs2 : pt (rs2) 5 20 = rs2 * 1048576 := pt_of 5 20 32 1048576 rs2 rfl rfl (by omega)
  have hm2 : m = (f7 * 32 + rd) ∨ m = (f7 * 32 + rd) - 4096 := by split at hm <;> omega
  clear hm
  have p0 : pt (f3) 3 12 = f3 * 4096 := pt_of 3 12 8 4096 (f3) rfl rfl (by omega)
  have p1 : pt (m / 32) 7 25 = f7 * 33554432 := pt_of 7 25 128 33554432 (f7) rfl rfl (by omega)
  have p2 : pt (m) 5 7 = rd * 128 := pt_of 5 7 32 128 (rd) rfl rfl (by omega)
  rw [r_rd, r_rs1, r_rs2, p0, p1, p2]
  have z1 : ∀ x : Int, 0 ≤ x → x < 4294967296 → bor x 0 = x := fun x h1 h2 => bor_zero ⟨h1, h2⟩
  have zr : bor (bor (0) (rs1 * 32768)) (rs2 * 1048576) = bor (rs1 * 32768) (rs2 * 1048576) := by
    rw [bor_comm 0, z1 (rs1 * 32768) (by omega) (by omega)]
  rw [zr]
  have s0 : bor (35) (rd * 128) = 35 + rd * 128 := bor_step 7 128 rfl ⟨by omega, by omega⟩ (by omega) (by omega) (by decide)
  have s1 : bor (35 + rd * 128) (f3 * 4096) = 35 + rd * 128 + f3 * 4096 := bor_step 12 4096 rfl ⟨by omega, by omega⟩ (by omega) (by omega) (by decide)
  have s2 : bor (35 + rd * 128 + f3 * 4096) (rs1 * 32768) = 35 + rd * 128 + f3 * 4096 + rs1 * 32768 := bor_step 15 32768 rfl ⟨by omega, by omega⟩ (by omega) (by omega) (by decide)
  have s3 : bor (35 + rd * 128 + f3 * 4096 + rs1 * 32768) (rs2 * 1048576) = 35 + rd * 128 + f3 * 4096 + rs1 * 32768 + rs2 * 1048576 := bor_step 20 1048576 rfl ⟨by omega, by omega⟩ (by omega) (by omega) (by decide)
  have s4 : bor (35 + rd * 128 + f3 * 4096 + rs1 * 32768 + rs2 * 1048576) (f7 * 33554432) = 35 + rd * 128 + f3 * 4096 + rs1 * 32768 + rs2 * 1048576 + f7 * 33554432 := bor_step 25 33554432 rfl ⟨by omega, by omega⟩ (by omega) (by omega) (by decide)
  rw [show bor (bor (bor (bor 35 (bor (rs1 * 32768) (rs2 * 1048576))) (f3 * 4096)) (f7 * 33554432)) (rd * 128) = bor (bor (bor (bor (bor (35) (rd * 128)) (f3 * 4096)) (rs1 * 32768)) (rs2 * 1048576)) (f7 * 33554432) from by ac_rfl, s0, s1, s2, s3, s4]
  have ha := HA.out
  have e0 := e_op.out
  have f0 := e_rd.out
  have f1 := e_f3.out
  have f2 := e_rs1.out
  have f3 := e_rs2.out
  have f4 := e_f7.out
  clear HA e_op d_rd d_f3 d_rs1 d_rs2 d_f7
  omega
theorem k19_1 (a : Int) (ha : 0 ≤ a ∧ a < 4294967296) (hop : fd a 6 0 = 19) (hx : (fd a 14 12) = 1) (hh : (fd a 31 26) = 0) : bor (encI 3 (fd a 25 20)) (regW (fd a 11 7) (fd a 19 15) 0) = a := by
  have e_op := Lib.hid (hop.symm.trans (show fd a 6 0 = a / 1 % 128 from rfl))
  have HA := Lib.hid ha
  clear hop ha
  have e_rd := Lib.hid (show fd a 11 7 = a / 128 % 32 from rfl)
  have d_rd := fd_lit (a := a) (h := 11) (l := 7) (n := 32) rfl
  have e_rs1 := Lib.hid (show fd a 19 15 = a / 32768 % 32 from rfl)
  have d_rs1 := fd_lit (a := a) (h := 19) (l := 15) (n := 32) rfl
  have e_sh := Lib.hid (show fd a 25 20 = a / 1048576 % 64 from rfl)
  have d_sh := fd_lit (a := a) (h := 25) (l := 20) (n := 64) rfl
  have e_f3 := Lib.hid (show fd a 14 12 = a / 4096 % 8 from rfl)
  have d_f3 := fd_lit (a := a) (h := 14) (l := 12) (n := 8) rfl
  have e_hi := Lib.hid (show fd a 31 26 = a / 67108864 % 64 from rfl)
  have d_hi := fd_lit (a := a) (h := 31) (l := 26) (n := 64) rfl
  generalize fd a 11 7 = rd at *
  generalize fd a 19 15 = rs1 at *
  generalize fd a 25 20 = sh at *
  generalize fd a 14 12 = f3 at *
  generalize fd a 31 26 = hi at *
  show bor (bor 4115 (pt (sh) 6 20)) (regW rd rs1 0) = _
  unfold regW
  have r_rd : pt (rd) 5 7 = rd * 128 := pt_of 5 7 32 128 rd rfl rfl (by omega)
  have r_rs1 : pt (rs1) 5 15 = rs1 * 32768 := pt_of 5 15 32 32768 rs1 rfl rfl (by omega)
  have r_rs2 : pt 0 5 20 = 0 := pt0 5 20
  have p0 : pt (sh) 6 20 = sh * 1048576 := pt_of 6 20 64 1048576 (sh) rfl rfl (by omega)
  rw [r_rd, r_rs1, r_rs2, p0]
  have z1 : ∀ x : Int, 0 ≤ x → x < 4294967296 → bor x 0 = x := fun x h1 h2 => bor_zero ⟨h1, h2⟩
  have zr : bor (bor (rd * 128) (rs1 * 32768)) (0) = bor (rd * 128) (rs1 * 32768) := by
    exact z1 _ (bor_w _ _).out.1 (bor_w _ _).out.2
  rw [zr]
  rw [show (4115 : Int) = (bor 19 (1 * 4096)) from by rfl]
  have s0 : bor (19) (rd * 128) = 19 + rd * 128 := bor_step 7 128 rfl ⟨by omega, by omega⟩ (by omega) (by omega) (by decide)
  have s1 : bor (19 + rd * 128) (1 * 4096) = 19 + rd * 128 + 1 * 4096 := bor_step 12 4096 rfl ⟨by omega, by omega⟩ (by omega) (by omega) (by decide)
  have s2 : bor (19 + rd * 128 + 1 * 4096) (rs1 * 32768) = 19 + rd * 128 + 1 * 4096 + rs1 * 32768 := bor_step 15 32768 rfl ⟨by omega, by omega⟩ (by omega) (by omega) (by decide)
  have s3 : bor (19 + rd * 128 + 1 * 4096 + rs1 * 32768) (sh * 1048576) = 19 + rd * 128 + 1 * 4096 + rs1 * 32768 + sh * 1048576 := bor_step 20 1048576 rfl ⟨by omega, by omega⟩ (by omega) (by omega) (by decide)
  rw [show bor (bor (bor 19 (1 * 4096)) (sh * 1048576)) (bor (rd * 128) (rs1 * 32768)) = bor (bor (bor (bor (19) (rd * 128)) (1 * 4096)) (rs1 * 32768)) (sh * 1048576) from by ac_rfl, s0, s1, s2, s3]
  have ha := HA.out
  have e0 := e_op.out
  have f0 := e_rd.out
  have f1 := e_rs1.out
  have f2 := e_sh.out
  have f3 := e_f3.out
  have f4 := e_hi.out
  clear HA e_op d_rd d_rs1 d_sh
  omega
theorem k19_5 (a : Int) (ha : 0 ≤ a ∧ a < 4294967296) (hop : fd a 6 0 = 19) (hx : (fd a 14 12) = 5) (hh : (fd a 31 26) = 0) : bor (encI 7 (fd a 25 20)) (regW (fd a 11 7) (fd a 19 15) 0) = a := by
  have e_op := Lib.hid (hop.symm.trans (show fd a 6 0 = a / 1 % 128 from rfl))
  have HA := Lib.hid ha
  clear hop ha
  have e_rd := Lib.hid (show fd a 11 7 = a / 128 % 32 from rfl)
  have d_rd := fd_lit (a := a) (h := 11) (l := 7) (n := 32) rfl
  have e_rs1 := Lib.hid (show fd a 19 15 = a / 32768 % 32 from rfl)
  have d_rs1 := fd_lit (a := a) (h := 19) (l := 15) (n := 32) rfl
  have e_sh := Lib.hid (show fd a 25 20 = a / 1048576 % 64 from rfl)
  have d_sh := fd_lit (a := a) (h := 25) (l := 20) (n := 64) rfl
  have e_f3 := Lib.hid (show fd a 14 12 = a / 4096 % 8 from rfl)
  have d_f3 := fd_lit (a := a) (h := 14) (l := 12) (n := 8) rfl
  have e_hi := Lib.hid (show fd a 31 26 = a / 67108864 % 64 from rfl)
  have d_hi := fd_lit (a := a) (h := 31) (l := 26) (n := 64) rfl
  generalize fd a 11 7 = rd at *
  generalize fd a 19 15 = rs1 at *
  generalize fd a 25 20 = sh at *
  generalize fd a 14 12 = f3 at *
  generalize fd a 31 26 = hi at *
  show bor (bor 20499 (pt (sh) 6 20)) (regW rd rs1 0) = _
  unfold regW
  have r_rd : pt (rd) 5 7 = rd * 128 := pt_of 5 7 32 128 rd rfl rfl (by omega)
  have r_rs1 : pt (rs1) 5 15 = rs1 * 32768 := pt_of 5 15 32 32768 rs1 rfl rfl (by omega)
  have r_rs2 : pt 0 5 20 = 0 := pt0 5 20
  have p0 : pt (sh) 6 20 = sh * 1048576 := pt_of 6 20 64 1048576 (sh) rfl rfl (by omega)
  rw [r_rd, r_rs1, r_rs2, p0]
  have z1 : ∀ x : Int, 0 ≤ x → x < 4294967296 → bor x 0 = x := fun x h1 h2 => bor_zero ⟨h1, h2⟩
  have zr : bor (bor (rd * 128) (rs1 * 32768)) (0) = bor (rd * 128) (rs1 * 32768) := by
    exact z1 _ (bor_w _ _).out.1 (bor_w _ _).out.2
  rw [zr]
  rw [show (20499 : Int) = (bor 19 (5 * 4096)) from by rfl]
  have s0 : bor (19) (rd * 128) = 19 + rd * 128 := bor_step 7 128 rfl ⟨by omega, by omega⟩ (by omega) (by omega) (by decide)
  have s1 : bor (19 + rd * 128) (5 * 4096) = 19 + rd * 128 + 5 * 4096 := bor_step 12 4096 rfl ⟨by omega, by omega⟩ (by omega) (by omega) (by decide)
  have s2 : bor (19 + rd * 128 + 5 * 4096) (rs1 * 32768) = 19 + rd * 128 + 5 * 4096 + rs1 * 32768 := bor_step 15 32768 rfl ⟨by omega, by omega⟩ (by omega) (by omega) (by decide)
  have s3 : bor (19 + rd * 128 + 5 * 4096 + rs1 * 32768) (sh * 1048576) = 19 + rd * 128 + 5 * 4096 + rs1 * 32768 + sh * 1048576 := bor_step 20 1048576 rfl ⟨by omega, by omega⟩ (by omega) (by omega) (by decide)
  rw [show bor (bor (bor 19 (5 * 4096)) (sh * 1048576)) (bor (rd * 128) (rs1 * 32768)) = bor (bor (bor (bor (19) (rd * 128)) (5 * 4096)) (rs1 * 32768)) (sh * 1048576) from by ac_rfl, s0, s1, s2, s3]
  have ha := HA.out
  have e0 := e_op.out
  have f0 := e_rd.out
  have f1 := e_rs1.out
  have f2 := e_sh.out
  have f3 := e_f3.out
  have f4 := e_hi.out
  clear HA e_op d_rd d_rs1 d_sh
  omega
theorem k19_5a (a : Int) (ha : 0 ≤ a ∧ a < 4294967296) (hop : fd a 6 0 = 19) (hx : (fd a 14 12) = 5) (hh : (fd a 31 26) = 16) : bor (encI 8 (fd a 25 20)) (regW (fd a 11 7) (fd a 19 15) 0) = a := by
  have e_op := Lib.hid (hop.symm.trans (show fd a 6 0 = a / 1 % 128 from rfl))
  have HA := Lib.hid ha
  clear hop ha
  have e_rd := Lib.hid (show fd a 11 7 = a / 128 % 32 from rfl)
  have d_rd := fd_lit (a := a) (h := 11) (l := 7) (n := 32) rfl
  have e_rs1 := Lib.hid (show fd a 19 15 = a / 32768 % 32 from rfl)
  have d_rs1 := fd_lit (a := a) (h := 19) (l := 15) (n := 32) rfl
  have e_sh := Lib.hid (show fd a 25 20 = a / 1048576 % 64 from rfl)
  have d_sh := fd_lit (a := a) (h := 25) (l := 20) (n := 64) rfl
  have e_f3 := Lib.hid (show fd a 14 12 = a / 4096 % 8 from rfl)
  have d_f3 := fd_lit (a := a) (h := 14) (l := 12) (n := 8) rfl
  have e_hi := Lib.hid (show fd a 31 26 = a / 67108864 % 64 from rfl)
  have d_hi := fd_lit (a := a) (h := 31) (l := 26) (n := 64) rfl
  generalize fd a 11 7 = rd at *
  generalize fd a 19 15 = rs1 at *
  generalize fd a 25 20 = sh at *
  generalize fd a 14 12 = f3 at *
  generalize fd a 31 26 = hi at *
  show bor (bor 1073762323 (pt (sh) 6 20)) (regW rd rs1 0) = _
  unfold regW
  have r_rd : pt (rd) 5 7 = rd * 128 := pt_of 5 7 32 128 rd rfl rfl (by omega)
  have r_rs1 : pt (rs1) 5 15 = rs1 * 32768 := pt_of 5 15 32 32768 rs1 rfl rfl (by omega)
  have r_rs2 : pt 0 5 20 = 0 := pt0 5 20
  have p0 : pt (sh) 6 20 = sh * 1048576 := pt_of 6 20 64 1048576 (sh) rfl rfl (by omega)
  rw [r_rd, r_rs1, r_rs2, p0]
  have z1 : ∀ x : Int, 0 ≤ x → x < 4294967296 → bor x 0 = x := fun x h1 h2 => bor_zero ⟨h1, h2⟩
  have zr : bor (bor (rd * 128) (rs1 * 32768)) (0) = bor (rd * 128) (rs1 * 32768) := by
    exact z1 _ (bor_w _ _).out.1 (bor_w _ _).out.2
  rw [zr]
  rw [show (1073762323 : Int) = (bor (bor 19 (5 * 4096)) (16 * 67108864)) from by rfl]
  have s0 : bor (19) (rd * 128) = 19 + rd * 128 := bor_step 7 128 rfl ⟨by omega, by omega⟩ (by omega) (by omega) (by decide)
  have s1 : bor (19 + rd * 128) (5 * 4096) = 19 + rd * 128 + 5 * 4096 := bor_step 12 4096 rfl ⟨by omega, by omega⟩ (by omega) (by omega) (by decide)
  have s2 : bor (19 + rd * 128 + 5 * 4096) (rs1 * 32768) = 19 + rd * 128 + 5 * 4096 + rs1 * 32768 := bor_step 15 32768 rfl ⟨by omega, by omega⟩ (by omega) (by omega) (by decide)
  have s3 : bor (19 + rd * 128 + 5 * 4096 + rs1 * 32768) (sh * 1048576) = 19 + rd * 128 + 5 * 4096 + rs1 * 32768 + sh * 1048576 := bor_step 20 1048576 rfl ⟨by omega, by omega⟩ (by omega) (by omega) (by decide)
  have s4 : bor (19 + rd * 128 + 5 * 4096 + rs1 * 32768 + sh * 1048576) (16 * 67108864) = 19 + rd * 128 + 5 * 4096 + rs1 * 32768 + sh * 1048576 + 16 * 67108864 := bor_step 26 67108864 rfl ⟨by omega, by omega⟩ (by omega) (by omega) (by decide)
  rw [show bor (bor (bor (bor 19 (5 * 4096)) (16 * 67108864)) (sh * 1048576)) (bor (rd * 128) (rs1 * 32768)) = bor (bor (bor (bor (bor (19) (rd * 128)) (5 * 4096)) (rs1 * 32768)) (sh * 1048576)) (16 * 67108864) from by ac_rfl, s0, s1, s2, s3, s4]
  have ha := HA.out
  have e0 := e_op.out
  have f0 := e_rd.out
  have f1 := e_rs1.out
  have f2 := e_sh.out
  have f3 := e_f3.out
  have f4 := e_hi.out
  clear HA e_op d_rd d_rs1 d_sh
  omega
theorem k19_o (a : Int) (ha : 0 ≤ a ∧ a < 4294967296) (hop : fd a 6 0 = 19)  : bor (bor (bor 19 (pt (immI a) 12 20)) (pt ((fd a 14 12)) 3 12)) (regW (fd a 11 7) (fd a 19 15) 0) = a := by
  have e_op := Lib.hid (hop.symm.trans (show fd a 6 0 = a / 1 % 128 from rfl))
  have HA := Lib.hid ha
  clear hop ha
  have e_rd := Lib.hid (show fd a 11 7 = a / 128 % 32 from rfl)
  have d_rd := fd_lit (a := a) (h := 11) (l := 7) (n := 32) rfl
  have e_f3 := Lib.hid (show fd a 14 12 = a / 4096 % 8 from rfl)
  have d_f3 := fd_lit (a := a) (h := 14) (l := 12) (n := 8) rfl
  have e_rs1 := Lib.hid (show fd a 19 15 = a / 32768 % 32 from rfl)
  have d_rs1 := fd_lit (a := a) (h := 19) (l := 15) (n := 32) rfl
  have e_i12 := Lib.hid (show fd a 31 20 = a / 1048576 % 4096 from rfl)
  have d_i12 := fd_lit (a := a) (h := 31) (l := 20) (n := 4096) rfl
  obtain ⟨m, hmm⟩ : ∃ m, immI a = m := ⟨_, rfl⟩
  have hm : m = (if ((fd a 31 20)) < 2048 then ((fd a 31 20)) else ((fd a 31 20)) - 4096) := hmm.symm
  rw [hmm]
  clear hmm
  generalize fd a 11 7 = rd at *
  generalize fd a 14 12 = f3 at *
  generalize fd a 19 15 = rs1 at *
  generalize fd a 31 20 = i12 at *
  have hm2 : m = (i12) ∨ m = (i12) - 4096 := by split at hm <;> omega
  clear hm
  show bor (bor (bor 19 (pt (m) 12 20)) (pt (f3) 3 12)) (regW rd rs1 0) = _
  unfold regW
  have r_rd : pt (rd) 5 7 = rd * 128 := pt_of 5 7 32 128 rd rfl rfl (by omega)
  have r_rs1 : pt (rs1) 5 15 = rs1 * 32768 := pt_of 5 15 32 32768 rs1 rfl rfl (by omega)
  have r_rs2 : pt 0 5 20 = 0 := pt0 5 20
  have p0 : pt (m) 12 20 = i12 * 1048576 := pt_of 12 20 4096 1048576 (i12) rfl rfl (by omega)
  have p1 : pt (f3) 3 12 = f3 * 4096 := pt_of 3 12 8 4096 (f3) rfl rfl (by omega)
  rw [r_rd, r_rs1, r_rs2, p0, p1]
  have z1 : ∀ x : Int, 0 ≤ x → x < 4294967296 → bor x 0 = x := fun x h1 h2 => bor_zero ⟨h1, h2⟩
  have zr : bor (bor (rd * 128) (rs1 * 32768)) (0) = bor (rd * 128) (rs1 * 32768) := by
    exact z1 _ (bor_w _ _).out.1 (bor_w _ _).out.2
  rw [zr]
  have s0 : bor (19) (rd * 128) = 19 + rd * 128 := bor_step 7 128 rfl ⟨by omega, by omega⟩ (by omega) (by omega) (by decide)
  have s1 : bor (19 + rd * 128) (f3 * 4096) = 19 + rd * 128 + f3 * 4096 := bor_step 12 4096 rfl ⟨by omega, by omega⟩ (by omega) (by omega) (by decide)
  have s2 : bor (19 + rd * 128 + f3 * 4096) (rs1 * 32768) = 19 + rd * 128 + f3 * 4096 + rs1 * 32768 := bor_step 15 32768 rfl ⟨by omega, by omega⟩ (by omega) (by omega) (by decide)
  have s3 : bor (19 + rd * 128 + f3 * 4096 + rs1 * 32768) (i12 * 1048576) = 19 + rd * 128 + f3 * 4096 + rs1 * 32768 + i12 * 1048576 := bor_step 20 1048576 rfl ⟨by omega, by omega⟩ (by omega) (by omega) (by decide)
  rw [show bor (bor (bor 19 (i12 * 1048576)) (f3 * 4096)) (bor (rd * 128) (rs1 * 32768)) = bor (bor (bor (bor (19) (rd * 128)) (f3 * 4096)) (rs1 * 32768)) (i12 * 1048576) from by ac_rfl, s0, s1, s2, s3]
  have ha := HA.out
  have e0 := e_op.out
  have f0 := e_rd.out
  have f1 := e_f3.out
  have f2 := e_rs1.out
  have f3 := e_i12.out
  clear HA e_op d_rd d_f3 d_rs1 d_i12
  omega
theorem k27_0 (a : Int) (ha : 0 ≤ a ∧ a < 4294967296) (hop : fd a 6 0 = 27) (hx : (fd a 14 12) = 0) : bor (encI 19 (immI a)) (regW (fd a 11 7) (fd a 19 15) 0) = a := by
  have e_op := Lib.hid (hop.symm.trans (show fd a 6 0 = a / 1 % 128 from rfl))
  have HA := Lib.hid ha
  clear hop ha
  have e_rd := Lib.hid (show fd a 11 7 = a / 128 % 32 from rfl)
  have d_rd := fd_lit (a := a) (h := 11) (l := 7) (n := 32) rfl
  have e_rs1 := Lib.hid (show fd a 19 15 = a / 32768 % 32 from rfl)
  have d_rs1 := fd_lit (a := a) (h := 19) (l := 15) (n := 32) rfl
  have e_i12 := Lib.hid (show fd a 31 20 = a / 1048576 % 4096 from rfl)
  have d_i12 := fd_lit (a := a) (h := 31) (l := 20) (n := 4096) rfl
  have e_f3 := Lib.hid (show fd a 14 12 = a / 4096 % 8 from rfl)
  have d_f3 := fd_lit (a := a) (h := 14) (l := 12) (n := 8) rfl
  obtain ⟨m, hmm⟩ : ∃ m, immI a = m := ⟨_, rfl⟩
  have hm : m = (if ((fd a 31 20)) < 2048 then ((fd a 31 20)) else ((fd a 31 20)) - 4096) := hmm.symm
  rw [hmm]
  clear hmm
  generalize fd a 11 7 = rd at *
  generalize fd a 19 15 = rs1 at *
  generalize fd a 31 20 = i12 at *
  generalize fd a 14 12 = f3 at *
  have hm2 : m = (i12) ∨ m = (i12) - 4096 := by split at hm <;> omega
  clear hm
  show bor (bor 27 (pt (m) 12 20)) (regW rd rs1 0) = _
  unfold regW
  have r_rd : pt (rd) 5 7 = rd * 128 := pt_of 5 7 32 128 rd rfl rfl (by omega)
  have r_rs1 : pt (rs1) 5 15 = rs1 * 32768 := pt_of 5 15 32 32768 rs1 rfl rfl (by omega)
  have r_rs2 : pt 0 5 20 = 0 := pt0 5 20
  have p0 : pt (m) 12 20 = i12 * 1048576 := pt_of 12 20 4096 1048576 (i12) rfl rfl (by omega)
  rw [r_rd, r_rs1, r_rs2, p0]
  have z1 : ∀ x : Int, 0 ≤ x → x < 4294967296 → bor x 0 = x := fun x h1 h2 => bor_zero ⟨h1, h2⟩
  have zr : bor (bor (rd * 128) (rs1 * 32768)) (0) = bor (rd * 128) (rs1 * 32768) := by
    exact z1 _ (bor_w _ _).out.1 (bor_w _ _).out.2
  rw [zr]
  have s0 : bor (27) (rd * 128) = 27 + rd * 128 := bor_step 7 128 rfl ⟨by omega, by omega⟩ (by omega) (by omega) (by decide)
  have s1 : bor (27 + rd * 128) (rs1 * 32768) = 27 + rd * 128 + rs1 * 32768 := bor_step 15 32768 rfl ⟨by omega, by omega⟩ (by omega) (by omega) (by decide)
  have s2 : bor (27 + rd * 128 + rs1 * 32768) (i12 * 1048576) = 27 + rd * 128 + rs1 * 32768 + i12 * 1048576 := bor_step 20 1048576 rfl ⟨by omega, by omega⟩ (by omega) (by omega) (by decide)
  rw [show bor (bor 27 (i12 * 1048576)) (bor (rd * 128) (rs1 * 32768)) = bor (bor (bor (27) (rd * 128)) (rs1 * 32768)) (i12 * 1048576) from by ac_rfl, s0, s1, s2]
  have ha := HA.out
  have e0 := e_op.out
  have f0 := e_rd.out
  have f1 := e_rs1.out
  have f2 := e_i12.out
  have f3 := e_f3.out
  clear HA e_op d_rd d_rs1 d_i12
  omega
theorem k27_1 (a : Int) (ha : 0 ≤ a ∧ a < 4294967296) (hop : fd a 6 0 = 27) (hx : (fd a 14 12) = 1) (hh : (fd a 31 25) = 0) : bor (encI 21 (fd a 24 20)) (regW (fd a 11 7) (fd a 19 15) 0) = a := by
  have e_op := Lib.hid (hop.symm.trans (show fd a 6 0 = a / 1 % 128 from rfl))
  have HA := Lib.hid ha
  clear hop ha
  have e_rd := Lib.hid (show fd a 11 7 = a / 128 % 32 from rfl)
  have d_rd := fd_lit (a := a) (h := 11) (l := 7) (n := 32) rfl
  have e_rs1 := Lib.hid (show fd a 19 15 = a / 32768 % 32 from rfl)
  have d_rs1 := fd_lit (a := a) (h := 19) (l := 15) (n := 32) rfl
  have e_rs2 := Lib.hid (show fd a 24 20 = a / 1048576 % 32 from rfl)
  have d_rs2 := fd_lit (a := a) (h := 24) (l := 20) (n := 32) rfl
  have e_f3 := Lib.hid (show fd a 14 12 = a / 4096 % 8 from rfl)
  have d_f3 := fd_lit (a := a) (h := 14) (l := 12) (n := 8) rfl
  have e_f7 := Lib.hid (show fd a 31 25 = a / 33554432 % 128 from rfl)
  have d_f7 := fd_lit (a := a) (h := 31) (l := 25) (n := 128) rfl
  generalize fd a 11 7 = rd at *
  generalize fd a 19 15 = rs1 at *
  generalize fd a 24 20 = rs2 at *
  generalize fd a 14 12 = f3 at *
  generalize fd a 31 25 = f7 at *
  show bor (bor 4123 (pt (rs2) 5 20)) (regW rd rs1 0) = _
  unfold regW
  have r_rd : pt (rd) 5 7 = rd * 128 := pt_of 5 7 32 128 rd rfl rfl (by omega)
  have r_rs1 : pt (rs1) 5 15 = rs1 * 32768 := pt_of 5 15 32 32768 rs1 rfl rfl (by omega)
  have r_rs2 : pt 0 5 20 = 0 := pt0 5 20
  have p0 : pt (rs2) 5 20 = rs2 * 1048576 := pt_of 5 20 32 1048576 (rs2) rfl rfl (by omega)
  rw [r_rd, r_rs1, r_rs2, p0]
  have z1 : ∀ x : Int, 0 ≤ x → x < 4294967296 → bor x 0 = x := fun x h1 h2 => bor_zero ⟨h1, h2⟩
  have zr : bor (bor (rd * 128) (rs1 * 32768)) (0) = bor (rd * 128) (rs1 * 32768) := by
    exact z1 _ (bor_w _ _).out.1 (bor_w _ _).out.2
  rw [zr]
  rw [show (4123 : Int) = (bor 27 (1 * 4096)) from by rfl]
  have s0 : bor (27) (rd * 128) = 27 + rd * 128 := bor_step 7 128 rfl ⟨by omega, by omega⟩ (by omega) (by omega) (by decide)
  have s1 : bor (27 + rd * 128) (1 * 4096) = 27 + rd * 128 + 1 * 4096 := bor_step 12 4096 rfl ⟨by omega, by omega⟩ (by omega) (by omega) (by decide)
  have s2 : bor (27 + rd * 128 + 1 * 4096) (rs1 * 32768) = 27 + rd * 128 + 1 * 4096 + rs1 * 32768 := bor_step 15 32768 rfl ⟨by omega, by omega⟩ (by omega) (by omega) (by decide)
  have s3 : bor (27 + rd * 128 + 1 * 4096 + rs1 * 32768) (rs2 * 1048576) = 27 + rd * 128 + 1 * 4096 + rs1 * 32768 + rs2 * 1048576 := bor_step 20 1048576 rfl ⟨by omega, by omega⟩ (by omega) (by omega) (by decide)
  rw [show bor (bor (bor 27 (1 * 4096)) (rs2 * 1048576)) (bor (rd * 128) (rs1 * 32768)) = bor (bor (bor (bor (27) (rd * 128)) (1 * 4096)) (rs1 * 32768)) (rs2 * 1048576) from by ac_rfl, s0, s1, s2, s3]
  have ha := HA.out
  have e0 := e_op.out
  have f0 := e_rd.out
  have f1 := e_rs1.out
  have f2 := e_rs2.out
  have f3 := e_f3.out
  have f4 := e_f7.out
  clear HA e_op d_rd d_rs1 d_rs2
  omega
theorem k27_5 (a : Int) (ha : 0 ≤ a ∧ a < 4294967296) (hop : fd a 6 0 = 27) (hx : (fd a 14 12) = 5) (hh : (fd a 31 25) = 0) : bor (encI 22 (fd a 24 20)) (regW (fd a 11 7) (fd a 19 15) 0) = a := by
  have e_op := Lib.hid (hop.symm.trans (show fd a 6 0 = a / 1 % 128 from rfl))
  have HA := Lib.hid ha
  clear hop ha
  have e_rd := Lib.hid (show fd a 11 7 = a / 128 % 32 from rfl)
  have d_rd := fd_lit (a := a) (h := 11) (l := 7) (n := 32) rfl
  have e_rs1 := Lib.hid (show fd a 19 15 = a / 32768 % 32 from rfl)
  have d_rs1 := fd_lit (a := a) (h := 19) (l := 15) (n := 32) rfl
  have e_rs2 := Lib.hid (show fd a 24 20 = a / 1048576 % 32 from rfl)
  have d_rs2 := fd_lit (a := a) (h := 24) (l := 20) (n := 32) rfl
  have e_f3 := Lib.hid (show fd a 14 12 = a / 4096 % 8 from rfl)
  have d_f3 := fd_lit (a := a) (h := 14) (l := 12) (n := 8) rfl
  have e_f7 := Lib.hid (show fd a 31 25 = a / 33554432 % 128 from rfl)
  have d_f7 := fd_lit (a := a) (h := 31) (l := 25) (n := 128) rfl
  generalize fd a 11 7 = rd at *
  generalize fd a 19 15 = rs1 at *
  generalize fd a 24 20 = rs2 at *
  generalize fd a 14 12 = f3 at *
  generalize fd a 31 25 = f7 at *
  show bor (bor 20507 (pt (rs2) 5 20)) (regW rd rs1 0) = _
  unfold regW
  have r_rd : pt (rd) 5 7 = rd * 128 := pt_of 5 7 32 128 rd rfl rfl (by omega)
  have r_rs1 : pt (rs1) 5 15 = rs1 * 32768 := pt_of 5 15 32 32768 rs1 rfl rfl (by omega)
  have r_rs2 : pt 0 5 20 = 0 := pt0 5 20
  have p0 : pt (rs2) 5 20 = rs2 * 1048576 := pt_of 5 20 32 1048576 (rs2) rfl rfl (by omega)
  rw [r_rd, r_rs1, r_rs2, p0]
  have z1 : ∀ x : Int, 0 ≤ x → x < 4294967296 → bor x 0 = x := fun x h1 h2 => bor_zero ⟨h1, h2⟩
  have zr : bor (bor (rd * 128) (rs1 * 32768)) (0) = bor (rd * 128) (rs1 * 32768) := by
    exact z1 _ (bor_w _ _).out.1 (bor_w _ _).out.2
  rw [zr]
  rw [show (20507 : Int) = (bor 27 (5 * 4096)) from by rfl]
  have s0 : bor (27) (rd * 128) = 27 + rd * 128 := bor_step 7 128 rfl ⟨by omega, by omega⟩ (by omega) (by omega) (by decide)
  have s1 : bor (27 + rd * 128) (5 * 4096) = 27 + rd * 128 + 5 * 4096 := bor_step 12 4096 rfl ⟨by omega, by omega⟩ (by omega) (by omega) (by decide)
  have s2 : bor (27 + rd * 128 + 5 * 4096) (rs1 * 32768) = 27 + rd * 128 + 5 * 4096 + rs1 * 32768 := bor_step 15 32768 rfl ⟨by omega, by omega⟩ (by omega) (by omega) (by decide)
  have s3 : bor (27 + rd * 128 + 5 * 4096 + rs1 * 32768) (rs2 * 1048576) = 27 + rd * 128 + 5 * 4096 + rs1 * 32768 + rs2 * 1048576 := bor_step 20 1048576 rfl ⟨by omega, by omega⟩ (by omega) (by omega) (by decide)
  rw [show bor (bor (bor 27 (5 * 4096)) (rs2 * 1048576)) (bor (rd * 128) (rs1 * 32768)) = bor (bor (bor (bor (27) (rd * 128)) (5 * 4096)) (rs1 * 32768)) (rs2 * 1048576) from by ac_rfl, s0, s1, s2, s3]
  have ha := HA.out
  have e0 := e_op.out
  have f0 := e_rd.out
  have f1 := e_rs1.out
  have f2 := e_rs2.out
  have f3 := e_f3.out
  have f4 := e_f7.out
  clear HA e_op d_rd d_rs1 d_rs2
  omega
theorem k27_5a (a : Int) (ha : 0 ≤ a ∧ a < 4294967296) (hop : fd a 6 0 = 27) (hx : (fd a 14 12) = 5) (hh : (fd a 31 25) = 32) : bor (encI 23 (fd a 24 20)) (regW (fd a 11 7) (fd a 19 15) 0) = a := by
  have e_op := Lib.hid (hop.symm.trans (show fd a 6 0 = a / 1 % 128 from rfl))
  have HA := Lib.hid ha
  clear hop ha
  have e_rd := Lib.hid (show fd a 11 7 = a / 128 % 32 from rfl)
  have d_rd := fd_lit (a := a) (h := 11) (l := 7) (n := 32) rfl
  have e_rs1 := Lib.hid (show fd a 19 15 = a / 32768 % 32 from rfl)
  have d_rs1 := fd_lit (a := a) (h := 19) (l := 15) (n := 32) rfl
  have e_rs2 := Lib.hid (show fd a 24 20 = a / 1048576 % 32 from rfl)
  have d_rs2 := fd_lit (a := a) (h := 24) (l := 20) (n := 32) rfl
  have e_f3 := Lib.hid (show fd a 14 12 = a / 4096 % 8 from rfl)
  have d_f3 := fd_lit (a := a) (h := 14) (l := 12) (n := 8) rfl
  have e_f7 := Lib.hid (show fd a 31 25 = a / 33554432 % 128 from rfl)
  have d_f7 := fd_lit (a := a) (h := 31) (l := 25) (n := 128) rfl
  generalize fd a 11 7 = rd at *
  generalize fd a 19 15 = rs1 at *
  generalize fd a 24 20 = rs2 at *
  generalize fd a 14 12 = f3 at *
  generalize fd a 31 25 = f7 at *
  show bor (bor 1073762331 (pt (rs2) 5 20)) (regW rd rs1 0) = _
  unfold regW
  have r_rd : pt (rd) 5 7 = rd * 128 := pt_of 5 7 32 128 rd rfl rfl (by omega)
  have r_rs1 : pt (rs1) 5 15 = rs1 * 32768 := pt_of 5 15 32 32768 rs1 rfl rfl (by omega)
  have r_rs2 : pt 0 5 20 = 0 := pt0 5 20
  have p0 : pt (rs2) 5 20 = rs2 * 1048576 := pt_of 5 20 32 1048576 (rs2) rfl rfl (by omega)
  rw [r_rd, r_rs1, r_rs2, p0]
  have z1 : ∀ x : Int, 0 ≤ x → x < 4294967296 → bor x 0 = x := fun x h1 h2 => bor_zero ⟨h1, h2⟩
  have zr : bor (bor (rd * 128) (rs1 * 32768)) (0) = bor (rd * 128) (rs1 * 32768) := by
    exact z1 _ (bor_w _ _).out.1 (bor_w _ _).out.2
  rw [zr]
  rw [show (1073762331 : Int) = (bor (bor 27 (5 * 4096)) (32 * 33554432)) from by rfl]
  have s0 : bor (27) (rd * 128) = 27 + rd * 128 := bor_step 7 128 rfl ⟨by omega, by omega⟩ (by omega) (by omega) (by decide)
  have s1 : bor (27 + rd * 128) (5 * 4096) = 27 + rd * 128 + 5 * 4096 := bor_step 12 4096 rfl ⟨by omega, by omega⟩ (by omega) (by omega) (by decide)
  have s2 : bor (27 + rd * 128 + 5 * 4096) (rs1 * 32768) = 27 + rd * 128 + 5 * 4096 + rs1 * 32768 := bor_step 15 32768 rfl ⟨by omega, by omega⟩ (by omega) (by omega) (by decide)
  have s3 : bor (27 + rd * 128 + 5 * 4096 + rs1 * 32768) (rs2 * 1048576) = 27 + rd * 128 + 5 * 4096 + rs1 * 32768 + rs2 * 1048576 := bor_step 20 1048576 rfl ⟨by omega, by omega⟩ (by omega) (by omega) (by decide)
  have s4 : bor (27 + rd * 128 + 5 * 4096 + rs1 * 32768 + rs2 * 1048576) (32 * 33554432) = 27 + rd * 128 + 5 * 4096 + rs1 * 32768 + rs2 * 1048576 + 32 * 33554432 := bor_step 25 33554432 rfl ⟨by omega, by omega⟩ (by omega) (by omega) (by decide)
  rw [show bor (bor (bor (bor 27 (5 * 4096)) (32 * 33554432)) (rs2 * 1048576)) (bor (rd * 128) (rs1 * 32768)) = bor (bor (bor (bor (bor (27) (rd * 128)) (5 * 4096)) (rs1 * 32768)) (rs2 * 1048576)) (32 * 33554432) from by ac_rfl, s0, s1, s2, s3, s4]
  have ha := HA.out
  have e0 := e_op.out
  have f0 := e_rd.out
  have f1 := e_rs1.out
  have f2 := e_rs2.out
  have f3 := e_f3.out
  have f4 := e_f7.out
  clear HA e_op d_rd d_rs1 d_rs2
  omega
theorem k51 (a : Int) (ha : 0 ≤ a ∧ a < 4294967296) (hop : fd a 6 0 = 51)  : bor (51 + (fd a 14 12) * 4096 + (fd a 31 25) * 33554432) (regW (fd a 11 7) (fd a 19 15) (fd a 24 20)) = a := by
  have e_op := Lib.hid (hop.symm.trans (show fd a 6 0 = a / 1 % 128 from rfl))
  have HA := Lib.hid ha
  clear hop ha
  have e_rd := Lib.hid (show fd a 11 7 = a / 128 % 32 from rfl)
  have d_rd := fd_lit (a := a) (h := 11) (l := 7) (n := 32) rfl
  have e_f3 := Lib.hid (show fd a 14 12 = a / 4096 % 8 from rfl)
  have d_f3 := fd_lit (a := a) (h := 14) (l := 12) (n := 8) rfl
  have e_rs1 := Lib.hid (show fd a 19 15 = a / 32768 % 32 from rfl)
  have d_rs1 := fd_lit (a := a) (h := 19) (l := 15) (n := 32) rfl
  have e_rs2 := Lib.hid (show fd a 24 20 = a / 1048576 % 32 from rfl)
  have d_rs2 := fd_lit (a := a) (h := 24) (l := 20) (n := 32) rfl
  have e_f7 := Lib.hid (show fd a 31 25 = a / 33554432 % 128 from rfl)
  have d_f7 := fd_lit (a := a) (h := 31) (l := 25) (n := 128) rfl
  generalize fd a 11 7 = rd at *
  generalize fd a 14 12 = f3 at *
  generalize fd a 19 15 = rs1 at *
  generalize fd a 24 20 = rs2 at *
  generalize fd a 31 25 = f7 at *
  show bor (51 + f3 * 4096 + f7 * 33554432) (regW rd rs1 rs2) = _
  unfold regW
  have r_rd : pt (rd) 5 7 = rd * 128 := pt_of 5 7 32 128 rd rfl rfl (by omega)
  have r_rs1 : pt (rs1) 5 15 = rs1 * 32768 := pt_of 5 15 32 32768 rs1 rfl rfl (by omega)
  have r_rs2 : pt (rs2) 5 20 = rs2 * 1048576 := pt_of 5 20 32 1048576 rs2 rfl rfl (by omega)
  rw [r_rd, r_rs1, r_rs2]
  have b1 : bor 51 (f3 * 4096) = 51 + f3 * 4096 := bor_step 12 4096 rfl ⟨by omega, by omega⟩ (by omega) (by omega) (by decide)
  have b2 : bor (51 + f3 * 4096) (f7 * 33554432) = 51 + f3 * 4096 + f7 * 33554432 := bor_step 25 33554432 rfl ⟨by omega, by omega⟩ (by omega) (by omega) (by decide)
  rw [← b2, ← b1]
  have s0 : bor (51) (rd * 128) = 51 + rd * 128 := bor_step 7 128 rfl ⟨by omega, by omega⟩ (by omega) (by omega) (by decide)
  have s1 : bor (51 + rd * 128) (f3 * 4096) = 51 + rd * 128 + f3 * 4096 := bor_step 12 4096 rfl ⟨by omega, by omega⟩ (by omega) (by omega) (by decide)
  have s2 : bor (51 + rd * 128 + f3 * 4096) (rs1 * 32768) = 51 + rd * 128 + f3 * 4096 + rs1 * 32768 := bor_step 15 32768 rfl ⟨by omega, by omega⟩ (by omega) (by omega) (by decide)
  have s3 : bor (51 + rd * 128 + f3 * 4096 + rs1 * 32768) (rs2 * 1048576) = 51 + rd * 128 + f3 * 4096 + rs1 * 32768 + rs2 * 1048576 := bor_step 20 1048576 rfl ⟨by omega, by omega⟩ (by omega) (by omega) (by decide)
  have s4 : bor (51 + rd * 128 + f3 * 4096 + rs1 * 32768 + rs2 * 1048576) (f7 * 33554432) = 51 + rd * 128 + f3 * 4096 + rs1 * 32768 + rs2 * 1048576 + f7 * 33554432 := bor_step 25 33554432 rfl ⟨by omega, by omega⟩ (by omega) (by omega) (by decide)
  rw [show bor (bor (bor 51 (f3 * 4096)) (f7 * 33554432)) (bor (bor (rd * 128) (rs1 * 32768)) (rs2 * 1048576)) = bor (bor (bor (bor (bor (51) (rd * 128)) (f3 * 4096)) (rs1 * 32768)) (rs2 * 1048576)) (f7 * 33554432) from by ac_rfl, s0, s1, s2, s3, s4]
  have ha := HA.out
  have e0 := e_op.out
  have f0 := e_rd.out
  have f1 := e_f3.out
  have f2 := e_rs1.out
  have f3 := e_rs2.out
  have f4 := e_f7.out
  clear HA e_op d_rd d_f3 d_rs1 d_rs2 d_f7
  omega
theorem k59 (a : Int) (ha : 0 ≤ a ∧ a < 4294967296) (hop : fd a 6 0 = 59)  : bor (59 + (fd a 14 12) * 4096 + (fd a 31 25) * 33554432) (regW (fd a 11 7) (fd a 19 15) (fd a 24 20)) = a := by
  have e_op := Lib.hid (hop.symm.trans (show fd a 6 0 = a / 1 % 128 from rfl))
  have HA := Lib.hid ha
  clear hop ha
  have e_rd := Lib.hid (show fd a 11 7 = a / 128 % 32 from rfl)
  have d_rd := fd_lit (a := a) (h := 11) (l := 7) (n := 32) rfl
  have e_f3 := Lib.hid (show fd a 14 12 = a / 4096 % 8 from rfl)
  have d_f3 := fd_lit (a := a) (h := 14) (l := 12) (n := 8) rfl
  have e_rs1 := Lib.hid (show fd a 19 15 = a / 32768 % 32 from rfl)
  have d_rs1 := fd_lit (a := a) (h := 19) (l := 15) (n := 32) rfl
  have e_rs2 := Lib.hid (show fd a 24 20 = a / 1048576 % 32 from rfl)
  have d_rs2 := fd_lit (a := a) (h := 24) (l := 20) (n := 32) rfl
  have e_f7 := Lib.hid (show fd a 31 25 = a / 33554432 % 128 from rfl)
  have d_f7 := fd_lit (a := a) (h := 31) (l := 25) (n := 128) rfl
  generalize fd a 11 7 = rd at *
  generalize fd a 14 12 = f3 at *
  generalize fd a 19 15 = rs1 at *
  generalize fd a 24 20 = rs2 at *
  generalize fd a 31 25 = f7 at *
  show bor (59 + f3 * 4096 + f7 * 33554432) (regW rd rs1 rs2) = _
  unfold regW
  have r_rd : pt (rd) 5 7 = rd * 128 := pt_of 5 7 32 128 rd rfl rfl (by omega)
  have r_rs1 : pt (rs1) 5 15 = rs1 * 32768 := pt_of 5 15 32 32768 rs1 rfl rfl (by omega)
  have r_rs2 : pt (rs2) 5 20 = rs2 * 1048576 := pt_of 5 20 32 1048576 rs2 rfl rfl (by omega)
  rw [r_rd, r_rs1, r_rs2]
  have b1 : bor 59 (f3 * 4096) = 59 + f3 * 4096 := bor_step 12 4096 rfl ⟨by omega, by omega⟩ (by omega) (by omega) (by decide)
  have b2 : bor (59 + f3 * 4096) (f7 * 33554432) = 59 + f3 * 4096 + f7 * 33554432 := bor_step 25 33554432 rfl ⟨by omega, by omega⟩ (by omega) (by omega) (by decide)
  rw [← b2, ← b1]
  have s0 : bor (59) (rd * 128) = 59 + rd * 128 := bor_step 7 128 rfl ⟨by omega, by omega⟩ (by omega) (by omega) (by decide)
  have s1 : bor (59 + rd * 128) (f3 * 4096) = 59 + rd * 128 + f3 * 4096 := bor_step 12 4096 rfl ⟨by omega, by omega⟩ (by omega) (by omega) (by decide)
  have s2 : bor (59 + rd * 128 + f3 * 4096) (rs1 * 32768) = 59 + rd * 128 + f3 * 4096 + rs1 * 32768 := bor_step 15 32768 rfl ⟨by omega, by omega⟩ (by omega) (by omega) (by decide)
  have s3 : bor (59 + rd * 128 + f3 * 4096 + rs1 * 32768) (rs2 * 1048576) = 59 + rd * 128 + f3 * 4096 + rs1 * 32768 + rs2 * 1048576 := bor_step 20 1048576 rfl ⟨by omega, by omega⟩ (by omega) (by omega) (by decide)
  have s4 : bor (59 + rd * 128 + f3 * 4096 + rs1 * 32768 + rs2 * 1048576) (f7 * 33554432) = 59 + rd * 128 + f3 * 4096 + rs1 * 32768 + rs2 * 1048576 + f7 * 33554432 := bor_step 25 33554432 rfl ⟨by omega, by omega⟩ (by omega) (by omega) (by decide)
  rw [show bor (bor (bor 59 (f3 * 4096)) (f7 * 33554432)) (bor (bor (rd * 128) (rs1 * 32768)) (rs2 * 1048576)) = bor (bor (bor (bor (bor (59) (rd * 128)) (f3 * 4096)) (rs1 * 32768)) (rs2 * 1048576)) (f7 * 33554432) from by ac_rfl, s0, s1, s2, s3, s4]
  have ha := HA.out
  have e0 := e_op.out
  have f0 := e_rd.out
  have f1 := e_f3.out
  have f2 := e_rs1.out
  have f3 := e_rs2.out
  have f4 := e_f7.out
  clear HA e_op d_rd d_f3 d_rs1 d_rs2 d_f7
  omega
end Go.Proofs.YtchpnbckgofiaaaGreat.Enc
end
