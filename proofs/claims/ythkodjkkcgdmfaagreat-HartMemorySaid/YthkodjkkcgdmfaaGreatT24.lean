/- Parts of the walks and laws for the claim: Encode, REnc, WordE, DecG, OneI, AwkB, Use; no conditions beyond the theorems' own. -/
import Derived.Test.YthkodjkkcgdmfaaGreatT11
import Derived.Test.YthkodjkkcgdmfaaGreatT14
import Derived.Test.YthkodjkkcgdmfaaGreatT15
import Derived.Test.YthkodjkkcgdmfaaGreatT18
import Derived.Test.YthkodjkkcgdmfaaGreatT19
import Derived.Test.YthkodjkkcgdmfaaGreatT21
import Derived.Test.YthkodjkkcgdmfaaGreatT22
import Derived.Test.YthkodjkkcgdmfaaGreatT23
section
namespace Go.Proofs.YthkodjkkcgdmfaaGreat.Enc
open Go Go.RowKit Go.Proofs.YthkodjkkcgdmfaaGreat.Step
set_option linter.unusedVariables false
set_option linter.unusedSimpArgs false
set_option maxRecDepth 100000
section
variable {P : Program} {ops : Array Oper} {rest : List Oper} {o : Oper} {a : Act} {W : World} {Q : Exit → Act → World → Prop}
/-- A variable of several cells is read, by an operation whose guard says yes. -/
theorem loadAllW {t : TypeId} {x : Operand} {g : Nat} {cs : Array Value} {T : TypeId} {d : TypeDesc} (hB : Blk W g cs T) (hw : Region.wanted o (yielded ops a.tmps) = true) (ho : o.op = .load t x) (hx : a.eval x = .pointer (some ⟨g, 0, none⟩)) (hu : P.underlying t = some d)
    (hd : (match d with | .struct _ | .array _ _ => true | _ => false) = true) (hi : (P.info? t).map (·.size) = some cs.size) (h : wpList P ops Q rest (a.put o.dst (.agg cs)) W) : wpList P ops Q (o :: rest) a W := by
  refine BigFrame.wpList_want hw fun K hK => ?_
  have h1 := run_loadVar_row (P := P) W g T t cs (0, 0) d hB.out hu hd hi
  have h2 : (execOp a.eval o).run P W = .ok (.value (.agg cs)) W := by simp [execOp, ho, hx, Instr.loadAt, Instr.sureAddr, h1, Result.andThen]
  unfold Oper.wp; rw [h2]; exact hK _ _ h
end
end Go.Proofs.YthkodjkkcgdmfaaGreat.Enc
end
section
namespace Go.Proofs.YthkodjkkcgdmfaaGreat.Enc
open Go Go.RowKit Go.Proofs.YthkodjkkcgdmfaaGreat.Step
set_option linter.unusedVariables false
set_option linter.unusedSimpArgs false
set_option maxRecDepth 100000
section
variable {P : Program} {ops : Array Oper} {rest : List Oper} {o : Oper} {a : Act} {W : World} {Q : Exit → Act → World → Prop}
/-- A cell is read, by an operation whose guard says yes. -/
theorem loadW1 {t : TypeId} {x : Operand} {g i : Nat} {cs : Array Value} {T : TypeId} {v : Value} (hB : Blk W g cs T) (hw : Region.wanted o (yielded ops a.tmps) = true) (ho : o.op = .load t x) (hx : a.eval x = .pointer (some ⟨g, i, none⟩)) (ht : plainT P t = true) (hv : cs[i]? = some v)
    (h : wpList P ops Q rest (a.put o.dst v) W) : wpList P ops Q (o :: rest) a W := by
  refine BigFrame.wpList_want hw fun K hK => ?_
  have h1 := run_load1 (P := P) ht ((hB.cell i).trans hv)
  have h2 : (execOp a.eval o).run P W = .ok (.value v) W := by simp [execOp, ho, hx, h1, Result.andThen]
  unfold Oper.wp; rw [h2]; exact hK _ _ h
end
/-- The fields are within the document's bounds. -/
def InR (i : Ins) : Prop := (-2147483648 ≤ i.imm ∧ i.imm < 2147483648) ∧ (0 ≤ i.rd ∧ i.rd ≤ 31) ∧ (0 ≤ i.rs1 ∧ i.rs1 ≤ 31) ∧ (0 ≤ i.rs2 ∧ i.rs2 ≤ 31) ∧ (0 ≤ i.fn ∧ i.fn ≤ 28) ∧ (0 ≤ i.sz ∧ i.sz ≤ 8)
end Go.Proofs.YthkodjkkcgdmfaaGreat.Enc
end
section
namespace Go.Proofs.YthkodjkkcgdmfaaGreat.Enc
open Go Go.RowKit
set_option linter.unusedVariables false
set_option linter.unusedSimpArgs false
set_option maxRecDepth 100000
theorem pk_rng (L : List Int) (m : Int) (hm : 0 ≤ m) (h : ∀ v ∈ L, 0 ≤ v ∧ v ≤ m) (x : Int) : 0 ≤ pk L x ∧ pk L x ≤ m := by
  unfold pk
  split
  · exact ⟨Int.le_refl _, hm⟩
  · by_cases hk : x.toNat < L.length
    · have : L.getD x.toNat 0 = L[x.toNat] := by simp [List.getD, List.getElem?_eq_getElem hk]
      rw [this]; exact h _ (List.getElem_mem hk)
    · have : L.getD x.toNat 0 = 0 := by simp [List.getD, List.getElem?_eq_none (show L.length ≤ x.toNat by omega)]
      rw [this]; exact ⟨Int.le_refl _, hm⟩
theorem regF_rng (wide : Bool) (s x : Int) : 0 ≤ regF wide s x ∧ regF wide s x ≤ 28 := by
  unfold regF
  repeat' split
  all_goals first
    | exact pk_rng _ 28 (by decide) (by decide) x
    | exact ⟨by decide, by decide⟩
theorem im13_fn (hi x sh m : Int) : 0 ≤ (im13 hi x sh m).1 ∧ (im13 hi x sh m).1 ≤ 28 := by
  unfold im13
  repeat' split
  all_goals first
    | exact pk_rng _ 28 (by decide) (by decide) x
    | (dsimp only; decide)
theorem im1b_fn (s x sh m : Int) : 0 ≤ (im1b s x sh m).1 ∧ (im1b s x sh m).1 ≤ 28 := by
  unfold im1b
  repeat' split
  all_goals (dsimp only; decide)
theorem atF_fn (f r : Int) : 0 ≤ (atF f r).2.1 ∧ (atF f r).2.1 ≤ 28 := by
  unfold atF
  repeat' split
  all_goals first
    | exact pk_rng _ 28 (by decide) (by decide) _
    | (dsimp only; decide)
theorem z28 : (0 : Int) ≤ 0 ∧ (0 : Int) ≤ 28 := by decide
theorem dec_fn {a : Int} {i : Ins} (h : dec a = some i) : 0 ≤ i.fn ∧ i.fn ≤ 28 := by
  unfold dec decOp at h
  rcases ite_some h with ⟨c, h⟩ | ⟨_, h⟩
  · injection h with h; subst h; exact z28
  rcases ite_some h with ⟨c, h⟩ | ⟨_, h⟩
  · injection h with h; subst h; exact z28
  rcases ite_some h with ⟨c, h⟩ | ⟨_, h⟩
  · injection h with h; subst h; exact z28
  rcases ite_some h with ⟨_, h⟩ | ⟨_, h⟩
  · rcases ite_some h with ⟨c, h⟩ | ⟨_, h⟩
    · injection h with h; subst h; exact z28
    · cases h
  rcases ite_some h with ⟨_, h⟩ | ⟨_, h⟩
  · rcases ite_some h with ⟨_, h⟩ | ⟨c, h⟩
    · cases h
    · injection h with h; subst h; exact pk_rng brL 28 (by decide) (by decide) _
  rcases ite_some h with ⟨_, h⟩ | ⟨_, h⟩
  · rcases ite_some h with ⟨c, h⟩ | ⟨_, h⟩
    · injection h with h; subst h; exact z28
    · cases h
  rcases ite_some h with ⟨_, h⟩ | ⟨_, h⟩
  · rcases ite_some h with ⟨c, h⟩ | ⟨_, h⟩
    · injection h with h; subst h; exact z28
    · cases h
  rcases ite_some h with ⟨_, h⟩ | ⟨_, h⟩
  · rcases ite_some h with ⟨c, h⟩ | ⟨_, h⟩
    · injection h with h; subst h; exact im13_fn _ _ _ _
    · cases h
  rcases ite_some h with ⟨_, h⟩ | ⟨_, h⟩
  · rcases ite_some h with ⟨c, h⟩ | ⟨_, h⟩
    · injection h with h; subst h; exact im1b_fn _ _ _ _
    · cases h
  rcases ite_some h with ⟨_, h⟩ | ⟨_, h⟩
  · rcases ite_some h with ⟨_, h⟩ | ⟨c, h⟩
    · cases h
    · injection h with h; subst h; exact regF_rng true (fd a 31 25) (fd a 14 12)
  rcases ite_some h with ⟨_, h⟩ | ⟨_, h⟩
  · rcases ite_some h with ⟨_, h⟩ | ⟨c, h⟩
    · cases h
    · injection h with h; subst h; exact regF_rng false (fd a 31 25) (fd a 14 12)
  rcases ite_some h with ⟨_, h⟩ | ⟨_, h⟩
  · rcases ite_some h with ⟨c, h⟩ | ⟨_, h⟩
    · injection h with h; subst h; exact z28
    · cases h
  rcases ite_some h with ⟨_, h⟩ | ⟨_, h⟩
  · unfold sysD at h
    rcases ite_some h with ⟨c, h⟩ | ⟨_, h⟩
    · injection h with h; subst h; exact z28
    rcases ite_some h with ⟨c, h⟩ | ⟨_, h⟩
    · injection h with h; subst h; exact z28
    rcases ite_some h with ⟨c, h⟩ | ⟨_, h⟩
    · injection h with h; subst h; exact z28
    rcases ite_some h with ⟨c, h⟩ | ⟨_, h⟩
    · injection h with h; subst h; exact z28
    rcases ite_some h with ⟨_, h⟩ | ⟨_, h⟩
    · rcases ite_some h with ⟨c, h⟩ | ⟨_, h⟩
      · injection h with h; subst h; exact z28
      · cases h
    rcases ite_some h with ⟨_, h⟩ | ⟨_, h⟩
    · cases h
    · injection h with h; subst h; exact pk_rng csL 28 (by decide) (by decide) _
  rcases ite_some h with ⟨_, h⟩ | ⟨_, h⟩
  · unfold atD at h
    rcases ite_some h with ⟨_, h⟩ | ⟨_, h⟩
    · rcases ite_some h with ⟨c, h⟩ | ⟨_, h⟩
      · injection h with h; subst h; exact atF_fn _ _
      · cases h
    · cases h
  · cases h
def wordP (i : Ins) : Int := wordF i.k i.fn i.rd i.rs1 i.rs2 i.imm i.sz i.sg
theorem p0 (n l : Nat) : pt 0 n l = 0 := pt0 n l
theorem reg1 (rd : Int) : regW rd 0 0 = pt rd 5 7 := by
  unfold regW
  rw [p0, p0, bor_zero (pt_bd rd 5 7 (by decide)), bor_zero (pt_bd rd 5 7 (by decide))]
theorem reg2 (rd rs1 : Int) : regW rd rs1 0 = bor (pt rd 5 7) (pt rs1 5 15) := by
  unfold regW
  rw [p0, bor_zero (bor_w _ _).out]
theorem reg3 (rs1 rs2 : Int) : regW 0 rs1 rs2 = bor (pt rs1 5 15) (pt rs2 5 20) := by
  unfold regW
  rw [p0, bor_comm 0, bor_zero (pt_bd rs1 5 15 (by decide))]
theorem sz_ld {s : Int} (h : s = 1 ∨ s = 2 ∨ s = 4 ∨ s = 8) : pk szL s * 4096 = pt (ix ld4 s) 3 12 ∧ (pk szL s + 4) * 4096 = pt (ix ld4 s + 4) 3 12 := by
  rcases h with h | h | h | h <;> (subst h; exact ⟨rfl, rfl⟩)
theorem sz_at {s : Int} (h : s = 4 ∨ s = 8) : pk szL s * 4096 = pt (ix at2 s + 2) 3 12 := by
  rcases h with h | h <;> (subst h; rfl)
theorem br_w : ∀ x : Fin 7, x.val ≠ 0 → pk bwL (x.val : Int) = ix brI (x.val : Int) := by decide
theorem am_w : ∀ x : Fin 10, x.val ≠ 0 → pk amW (x.val : Int) = ix amL (x.val : Int) := by decide
theorem rw_al : ∀ x : Fin 29, x.val ≠ 0 → pk rwL (x.val : Int) = bor (if 19 ≤ (x.val : Int) then 59 else 51) (al (x.val : Int)) := by decide
theorem and_reg {rd rs1 : Int} (h1 : 0 ≤ rd ∧ rd < 32) (h2 : 0 ≤ rs1 ∧ rs1 < 32) : bits .and .u32 (regW rd rs1 0) 1048575 = bor (pt rd 5 7) (pt rs1 5 15) := by
  rw [reg2]
  have e1 : pt rd 5 7 = rd * 128 := pt_of 5 7 32 128 rd rfl rfl (by omega)
  have e2 : pt rs1 5 15 = rs1 * 32768 := pt_of 5 15 32 32768 rs1 rfl rfl (by omega)
  rw [e1, e2]
  have zs : bor (rd * 128) (rs1 * 32768) = rd * 128 + rs1 * 32768 := bor_step 15 32768 rfl ⟨by omega, by omega⟩ (by omega) (by omega) (by decide)
  have h := u32_mask (rd * 128 + rs1 * 32768) 20 (by decide) (by omega)
  rw [zs]
  exact h.trans (by show _ % (1048576 : Int) = _; omega)
theorem pt_12 {v : Int} (n : Nat) (N : Int) (hN : N = (2 ^ n : Nat)) (hv : 0 ≤ v ∧ v < N) (h12 : N ≤ 4096) : pt v 12 20 = pt v n 20 := by
  subst hN
  have e : v % ((2 ^ n : Nat) : Int) = v := Int.emod_eq_of_lt hv.1 hv.2
  have e2 : v % ((2 ^ 12 : Nat) : Int) = v := Int.emod_eq_of_lt hv.1 (by show v < 4096; omega)
  unfold pt
  rw [e, e2]
theorem fin_of {x : Int} {n : Nat} (h : 0 ≤ x ∧ x < n) : ∃ y : Fin n, (y.val : Int) = x := ⟨⟨x.toNat, by omega⟩, by show ((x.toNat : Nat) : Int) = x; omega⟩
theorem word_alu {f rd rs1 rs2 : Int} (hf : 0 ≤ f ∧ f ≤ 28) (c : ¬ f = 0) : wordP ⟨8, f, rd, rs1, rs2, 0, 0, false⟩ = encP ⟨8, f, rd, rs1, rs2, 0, 0, false⟩ := by
  obtain ⟨y, hy⟩ := fin_of (n := 29) (x := f) (by omega)
  have e := rw_al y (by intro h0; rw [h0] at hy; exact c hy.symm)
  rw [hy] at e
  show (if 19 ≤ f then bor (bor 59 (al f)) (regW rd rs1 rs2) else bor (bor 51 (al f)) (regW rd rs1 rs2)) = bor (pk rwL f) (regW rd rs1 rs2)
  rw [e]
  split <;> rfl
theorem word_enc {a : Int} {i : Ins} (ha : W32 a) (h : dec a = some i) : wordP i = encP i := by
  have b1 := fd_lit (a := a) (h := 11) (l := 7) (n := 32) rfl
  have b2 := fd_lit (a := a) (h := 19) (l := 15) (n := 32) rfl
  have b3 := fd_lit (a := a) (h := 24) (l := 20) (n := 32) rfl
  have b4 := fd_lit (a := a) (h := 14) (l := 12) (n := 8) rfl
  have b6 := fd_lit (a := a) (h := 25) (l := 20) (n := 64) rfl
  have hf := dec_fn h
  unfold dec decOp at h
  rcases ite_some h with ⟨c, h⟩ | ⟨_, h⟩
  · injection h with h; subst h
    show bor (bor 55 (pt (fd a 11 7) 5 7)) _ = bor (bor 55 (regW (fd a 11 7) 0 0)) _
    rw [reg1]
  rcases ite_some h with ⟨c, h⟩ | ⟨_, h⟩
  · injection h with h; subst h
    show bor (bor 23 (pt (fd a 11 7) 5 7)) _ = bor (bor 23 (regW (fd a 11 7) 0 0)) _
    rw [reg1]
  rcases ite_some h with ⟨c, h⟩ | ⟨_, h⟩
  · injection h with h; subst h
    show bor (bor 111 (pt (fd a 11 7) 5 7)) (bor (bor (bor _ _) _) _) = bor (bor (bor (bor (bor 111 (regW (fd a 11 7) 0 0)) _) _) _) _
    rw [reg1]
    ac_rfl
  rcases ite_some h with ⟨_, h⟩ | ⟨_, h⟩
  · rcases ite_some h with ⟨c, h⟩ | ⟨_, h⟩
    · injection h with h; subst h
      show bor (bor (bor 103 (pt (fd a 11 7) 5 7)) (pt (fd a 19 15) 5 15)) _ = bor (bor 103 (regW (fd a 11 7) (fd a 19 15) 0)) _
      rw [reg2]
      ac_rfl
    · cases h
  rcases ite_some h with ⟨_, h⟩ | ⟨_, h⟩
  · rcases ite_some h with ⟨_, h⟩ | ⟨c, h⟩
    · cases h
    · injection h with h; subst h
      obtain ⟨y, hy⟩ := fin_of (n := 7) (x := pk brL (fd a 14 12)) (by have := pk_rng brL 6 (by decide) (by decide) (fd a 14 12); omega)
      have e := br_w y (by intro h0; rw [h0] at hy; exact c hy.symm)
      rw [hy] at e
      show bor (bor (bor (bor 99 (pt (pk bwL (pk brL (fd a 14 12))) 3 12)) (pt (fd a 19 15) 5 15)) (pt (fd a 24 20) 5 20)) (bor (bor (bor _ _) _) _) = bor (bor (bor (bor (bor (bor 99 (regW 0 (fd a 19 15) (fd a 24 20))) (pt (ix brI (pk brL (fd a 14 12))) 3 12)) _) _) _) _
      rw [reg3, e]
      ac_rfl
  rcases ite_some h with ⟨_, h⟩ | ⟨_, h⟩
  · rcases ite_some h with ⟨c, h⟩ | ⟨_, h⟩
    · injection h with h; subst h
      have hs : pk ldL (fd a 14 12) = 1 ∨ pk ldL (fd a 14 12) = 2 ∨ pk ldL (fd a 14 12) = 4 ∨ pk ldL (fd a 14 12) = 8 := by
        generalize fd a 14 12 = x at *
        obtain h | h | h | h | h | h | h : x = 0 ∨ x = 1 ∨ x = 2 ∨ x = 3 ∨ x = 4 ∨ x = 5 ∨ x = 6 := by omega
        all_goals (subst h; decide)
      have e := sz_ld hs
      by_cases hx : fd a 14 12 < 4
      · rw [decide_eq_true hx]
        show bor (bor (bor (bor 3 (pk szL (pk ldL (fd a 14 12)) * 4096)) (pt (fd a 11 7) 5 7)) (pt (fd a 19 15) 5 15)) _ = bor (bor (bor 3 (regW (fd a 11 7) (fd a 19 15) 0)) (pt (ix ld4 (pk ldL (fd a 14 12))) 3 12)) _
        rw [reg2, e.1]
        ac_rfl
      · rw [decide_eq_false hx]
        show bor (bor (bor (bor 3 ((pk szL (pk ldL (fd a 14 12)) + 4) * 4096)) (pt (fd a 11 7) 5 7)) (pt (fd a 19 15) 5 15)) _ = bor (bor (bor 3 (regW (fd a 11 7) (fd a 19 15) 0)) (pt (ix ld4 (pk ldL (fd a 14 12)) + 4) 3 12)) _
        rw [reg2, e.2]
        ac_rfl
    · cases h
  rcases ite_some h with ⟨_, h⟩ | ⟨_, h⟩
  · rcases ite_some h with ⟨c, h⟩ | ⟨_, h⟩
    · injection h with h; subst h
      have hs : pk stL (fd a 14 12) = 1 ∨ pk stL (fd a 14 12) = 2 ∨ pk stL (fd a 14 12) = 4 ∨ pk stL (fd a 14 12) = 8 := by
        generalize fd a 14 12 = x at *
        obtain h | h | h | h : x = 0 ∨ x = 1 ∨ x = 2 ∨ x = 3 := by omega
        all_goals (subst h; decide)
      have e := sz_ld hs
      show bor (bor (bor (bor (bor 35 (pk szL (pk stL (fd a 14 12)) * 4096)) (pt (fd a 19 15) 5 15)) (pt (fd a 24 20) 5 20)) _) _ = bor (bor (bor (bor 35 (regW 0 (fd a 19 15) (fd a 24 20))) (pt (ix ld4 (pk stL (fd a 14 12))) 3 12)) _) _
      rw [reg3, e.1]
      ac_rfl
    · cases h
  rcases ite_some h with ⟨_, h⟩ | ⟨_, h⟩
  · rcases ite_some h with ⟨c2, h⟩ | ⟨_, h⟩
    · injection h with h; subst h
      clear hf
      unfold im13 at c2 ⊢
      by_cases h1 : fd a 14 12 = 1
      · simp only [if_pos h1] at c2 ⊢
        by_cases h0 : fd a 31 26 = 0
        · simp only [if_pos h0]
          show bor (bor (bor (bor 19 (al 3)) (pt (fd a 11 7) 5 7)) (pt (fd a 19 15) 5 15)) (pt (fd a 25 20) 12 20) = bor (bor 4115 (pt (fd a 25 20) 6 20)) (regW (fd a 11 7) (fd a 19 15) 0)
          rw [reg2, pt_12 6 64 rfl b6 (by decide), show bor 19 (al 3) = 4115 from rfl]
          ac_rfl
        · simp only [if_neg h0] at c2
          cases c2
      simp only [if_neg h1] at c2 ⊢
      by_cases h5 : fd a 14 12 = 5
      · simp only [if_pos h5] at c2 ⊢
        by_cases h0 : fd a 31 26 = 0
        · simp only [if_pos h0]
          show bor (bor (bor (bor 19 (al 7)) (pt (fd a 11 7) 5 7)) (pt (fd a 19 15) 5 15)) (pt (fd a 25 20) 12 20) = bor (bor 20499 (pt (fd a 25 20) 6 20)) (regW (fd a 11 7) (fd a 19 15) 0)
          rw [reg2, pt_12 6 64 rfl b6 (by decide), show bor 19 (al 7) = 20499 from rfl]
          ac_rfl
        simp only [if_neg h0] at c2 ⊢
        by_cases h6 : fd a 31 26 = 16
        · simp only [if_pos h6]
          show bor (bor (bor (bor 19 (al 8)) (pt (fd a 11 7) 5 7)) (pt (fd a 19 15) 5 15)) (pt (fd a 25 20) 12 20) = bor (bor 1073762323 (pt (fd a 25 20) 6 20)) (regW (fd a 11 7) (fd a 19 15) 0)
          rw [reg2, pt_12 6 64 rfl b6 (by decide), show bor 19 (al 8) = 1073762323 from rfl]
          ac_rfl
        · simp only [if_neg h6] at c2
          cases c2
      simp only [if_neg h5]
      have hx : pk imL (fd a 14 12) = 1 ∨ pk imL (fd a 14 12) = 4 ∨ pk imL (fd a 14 12) = 5 ∨ pk imL (fd a 14 12) = 6 ∨ pk imL (fd a 14 12) = 9 ∨ pk imL (fd a 14 12) = 10 := by
        generalize fd a 14 12 = x at *
        obtain h | h | h | h | h | h : x = 0 ∨ x = 2 ∨ x = 3 ∨ x = 4 ∨ x = 6 ∨ x = 7 := by omega
        all_goals (subst h; decide)
      show wordP ⟨9, pk imL (fd a 14 12), _, _, 0, _, 0, false⟩ = encP ⟨9, pk imL (fd a 14 12), _, _, 0, _, 0, false⟩
      generalize pk imL (fd a 14 12) = f at *
      rcases hx with h | h | h | h | h | h
      all_goals
        subst h
        show bor (bor (bor (bor 19 (pt _ 3 12)) (pt (fd a 11 7) 5 7)) (pt (fd a 19 15) 5 15)) (pt (immI a) 12 20) = bor (bor (bor 19 (pt (immI a) 12 20)) (pt _ 3 12)) (regW (fd a 11 7) (fd a 19 15) 0)
        rw [reg2]
        exact (by ac_rfl : bor (bor (bor (bor 19 (pt _ 3 12)) (pt (fd a 11 7) 5 7)) (pt (fd a 19 15) 5 15)) (pt (immI a) 12 20) = bor (bor (bor 19 (pt (immI a) 12 20)) (pt _ 3 12)) (bor (pt (fd a 11 7) 5 7) (pt (fd a 19 15) 5 15)))
    · cases h
  rcases ite_some h with ⟨_, h⟩ | ⟨_, h⟩
  · rcases ite_some h with ⟨c2, h⟩ | ⟨_, h⟩
    · injection h with h; subst h
      clear hf
      unfold im1b at c2 ⊢
      by_cases h0 : fd a 14 12 = 0
      · simp only [if_pos h0]
        show bor (bor (bor (bor 27 (al 19)) (pt (fd a 11 7) 5 7)) (pt (fd a 19 15) 5 15)) (pt (immI a) 12 20) = bor (bor 27 (pt (immI a) 12 20)) (regW (fd a 11 7) (fd a 19 15) 0)
        rw [reg2, show bor 27 (al 19) = 27 from rfl]
        ac_rfl
      simp only [if_neg h0] at c2 ⊢
      by_cases h1 : fd a 14 12 = 1
      · simp only [if_pos h1] at c2 ⊢
        by_cases hs : fd a 31 25 = 0
        · simp only [if_pos hs]
          show bor (bor (bor (bor 27 (al 21)) (pt (fd a 11 7) 5 7)) (pt (fd a 19 15) 5 15)) (pt (fd a 24 20) 12 20) = bor (bor 4123 (pt (fd a 24 20) 5 20)) (regW (fd a 11 7) (fd a 19 15) 0)
          rw [reg2, pt_12 5 32 rfl b3 (by decide), show bor 27 (al 21) = 4123 from rfl]
          ac_rfl
        · simp only [if_neg hs] at c2
          cases c2
      simp only [if_neg h1] at c2 ⊢
      by_cases h5 : fd a 14 12 = 5
      · simp only [if_pos h5] at c2 ⊢
        by_cases hs : fd a 31 25 = 0
        · simp only [if_pos hs]
          show bor (bor (bor (bor 27 (al 22)) (pt (fd a 11 7) 5 7)) (pt (fd a 19 15) 5 15)) (pt (fd a 24 20) 12 20) = bor (bor 20507 (pt (fd a 24 20) 5 20)) (regW (fd a 11 7) (fd a 19 15) 0)
          rw [reg2, pt_12 5 32 rfl b3 (by decide), show bor 27 (al 22) = 20507 from rfl]
          ac_rfl
        simp only [if_neg hs] at c2 ⊢
        by_cases h6 : fd a 31 25 = 32
        · simp only [if_pos h6]
          show bor (bor (bor (bor 27 (al 23)) (pt (fd a 11 7) 5 7)) (pt (fd a 19 15) 5 15)) (pt (fd a 24 20) 12 20) = bor (bor 1073762331 (pt (fd a 24 20) 5 20)) (regW (fd a 11 7) (fd a 19 15) 0)
          rw [reg2, pt_12 5 32 rfl b3 (by decide), show bor 27 (al 23) = 1073762331 from rfl]
          ac_rfl
        · simp only [if_neg h6] at c2
          cases c2
      · simp only [if_neg h5] at c2
        cases c2
    · cases h
  rcases ite_some h with ⟨_, h⟩ | ⟨_, h⟩
  · rcases ite_some h with ⟨_, h⟩ | ⟨c, h⟩
    · cases h
    · injection h with h; subst h
      exact word_alu hf c
  rcases ite_some h with ⟨_, h⟩ | ⟨_, h⟩
  · rcases ite_some h with ⟨_, h⟩ | ⟨c, h⟩
    · cases h
    · injection h with h; subst h
      exact word_alu hf c
  rcases ite_some h with ⟨_, h⟩ | ⟨_, h⟩
  · rcases ite_some h with ⟨c, h⟩ | ⟨_, h⟩
    · injection h with h; subst h; rfl
    · cases h
  rcases ite_some h with ⟨_, h⟩ | ⟨_, h⟩
  · unfold sysD at h
    rcases ite_some h with ⟨c, h⟩ | ⟨_, h⟩
    · injection h with h; subst h; rfl
    rcases ite_some h with ⟨c, h⟩ | ⟨_, h⟩
    · injection h with h; subst h; rfl
    rcases ite_some h with ⟨c, h⟩ | ⟨_, h⟩
    · injection h with h; subst h; rfl
    rcases ite_some h with ⟨c, h⟩ | ⟨_, h⟩
    · injection h with h; subst h; rfl
    rcases ite_some h with ⟨_, h⟩ | ⟨_, h⟩
    · rcases ite_some h with ⟨c, h⟩ | ⟨_, h⟩
      · injection h with h; subst h
        show bor (bor 301990003 (pt (fd a 19 15) 5 15)) (pt (fd a 24 20) 5 20) = bor 301990003 (regW 0 (fd a 19 15) (fd a 24 20))
        rw [reg3]
        ac_rfl
      · cases h
    rcases ite_some h with ⟨_, h⟩ | ⟨_, h⟩
    · cases h
    · injection h with h; subst h
      by_cases hx : fd a 14 12 < 4
      · rw [if_pos hx]
        show bor (bor (bor (bor 115 (pt _ 2 12)) (pt (fd a 11 7) 5 7)) (pt (fd a 19 15) 5 15)) _ = bor (bor (bor 115 (bits .and .u32 (regW (fd a 11 7) (fd a 19 15) 0) 1048575)) _) _
        rw [and_reg b1 b2]
        ac_rfl
      · rw [if_neg hx]
        show bor (bor (bor (bor 16499 (pt _ 2 12)) (pt (fd a 11 7) 5 7)) (pt (fd a 19 15) 5 15)) _ = bor (bor (bor 16499 (bits .and .u32 (regW (fd a 11 7) (fd a 19 15) 0) 1048575)) _) _
        rw [and_reg b1 b2]
        ac_rfl
  rcases ite_some h with ⟨_, h⟩ | ⟨_, h⟩
  · unfold atD at h
    rcases ite_some h with ⟨hx, h⟩ | ⟨_, h⟩
    · rcases ite_some h with ⟨c, h⟩ | ⟨_, h⟩
      · injection h with h; subst h
        obtain ⟨z, hz⟩ : ∃ z : Int, (if fd a 14 12 = 2 then 4 else 8) = z := ⟨_, rfl⟩
        have hz4 : z = 4 ∨ z = 8 := by
          rw [← hz]; split
          · exact .inl rfl
          · exact .inr rfl
        rw [hz]
        have e := sz_at hz4
        clear hf hx hz
        unfold atF at c ⊢
        by_cases h2 : fd a 31 27 = 2
        · simp only [if_pos h2] at c ⊢
          have hr : fd a 24 20 = 0 := by simpa using c
          rw [hr]
          show bor (bor (bor 268435503 (pk szL z * 4096)) (pt (fd a 11 7) 5 7)) (pt (fd a 19 15) 5 15) = bor (bor 268435503 (regW (fd a 11 7) (fd a 19 15) 0)) (pt (ix at2 z + 2) 3 12)
          rw [reg2, e]
          ac_rfl
        simp only [if_neg h2] at c ⊢
        by_cases h3 : fd a 31 27 = 3
        · simp only [if_pos h3]
          show bor (bor 402653231 (pk szL z * 4096)) (regW (fd a 11 7) (fd a 19 15) (fd a 24 20)) = bor (bor 402653231 (regW (fd a 11 7) (fd a 19 15) (fd a 24 20))) (pt (ix at2 z + 2) 3 12)
          rw [e]
          ac_rfl
        simp only [if_neg h3] at c ⊢
        have key : ∀ f : Int, (1 ≤ f ∧ f < 10) → wordP ⟨17, f, fd a 11 7, fd a 19 15, fd a 24 20, 0, z, false⟩ = encP ⟨17, f, fd a 11 7, fd a 19 15, fd a 24 20, 0, z, false⟩ := by
          intro f hf
          obtain ⟨y, hy⟩ := fin_of (n := 10) (x := f) (by omega)
          have e2 := am_w y (by intro h0; rw [h0] at hy; omega)
          rw [hy] at e2
          show bor (bor (bor 47 (pt (pk amW f) 5 27)) (pk szL z * 4096)) (regW (fd a 11 7) (fd a 19 15) (fd a 24 20)) = bor (bor (bor 47 (regW (fd a 11 7) (fd a 19 15) (fd a 24 20))) (pt (ix at2 z + 2) 3 12)) (pt (ix amL f) 5 27)
          rw [e, e2]
          ac_rfl
        by_cases h1 : fd a 31 27 = 1
        · simp only [if_pos h1]
          exact key 1 (by decide)
        simp only [if_neg h1] at c ⊢
        by_cases h4 : fd a 31 27 % 4 = 0
        · simp only [if_pos h4]
          refine key _ ?_
          have b5 := fd_lit (a := a) (h := 31) (l := 27) (n := 32) rfl
          generalize fd a 31 27 = f at *
          obtain h | h | h | h | h | h | h | h : f = 0 ∨ f = 4 ∨ f = 8 ∨ f = 12 ∨ f = 16 ∨ f = 20 ∨ f = 24 ∨ f = 28 := by omega
          all_goals (subst h; decide)
        · simp only [if_neg h4] at c
          cases c
      · cases h
    · cases h
  · cases h
end Go.Proofs.YthkodjkkcgdmfaaGreat.Enc
end
section
namespace Go.Proofs.YthkodjkkcgdmfaaGreat.Enc
open Go Go.RowKit Go.Proofs.YthkodjkkcgdmfaaGreat.Step
set_option linter.unusedVariables false
set_option linter.unusedSimpArgs false
set_option maxRecDepth 100000
theorem rDec_3 (a : Int) (ha : W32 a) (h : fd a 6 0 = 3) (w : World) : Calls Tryz.prog 45 #[.int .u32 a] w fun e w' => e = .returned (told (dec a)) ∧ Below w.heap.size w w' := by
  unfold dec
  rw [h]
  exact rdec_3 a ha h w
theorem rDec_35 (a : Int) (ha : W32 a) (h : fd a 6 0 = 35) (w : World) : Calls Tryz.prog 45 #[.int .u32 a] w fun e w' => e = .returned (told (dec a)) ∧ Below w.heap.size w w' := by
  unfold dec
  rw [h]
  exact rdec_35 a ha h w
theorem rDec_51 (a : Int) (ha : W32 a) (h : fd a 6 0 = 51) (w : World) : Calls Tryz.prog 45 #[.int .u32 a] w fun e w' => e = .returned (told (dec a)) ∧ Below w.heap.size w w' := by
  unfold dec
  rw [h]
  exact rdec_51 a ha h w
theorem rDec_59 (a : Int) (ha : W32 a) (h : fd a 6 0 = 59) (w : World) : Calls Tryz.prog 45 #[.int .u32 a] w fun e w' => e = .returned (told (dec a)) ∧ Below w.heap.size w w' := by
  unfold dec
  rw [h]
  exact rdec_59 a ha h w
end Go.Proofs.YthkodjkkcgdmfaaGreat.Enc
end
section
namespace Go.Proofs.YthkodjkkcgdmfaaGreat.Duo
open Go Go.RowKit Go.Proofs.YthkodjkkcgdmfaaGreat.Step
open Go.Proofs.YthkodjkkcgdmfaaGreat.Mem (Ram Grow hasB wholeB num wr Rd fl Arg lst)
set_option linter.unusedVariables false
set_option linter.unusedSimpArgs false
set_option maxRecDepth 100000
set_option maxHeartbeats 1000000 in
theorem wboth4 {W w : World} {h1 h2 n : Nat} {base : Int} {mem : Nat → Int} {F1 F2 : Nat → Prop} (d : Duo W w h1 h2 base n mem F1 F2) (addr v : Int) (ha : 0 ≤ addr ∧ addr < 18446744073709551616) (hv : 0 ≤ v ∧ v < 18446744073709551616) (hh : hasB base n addr 4 = true) :
    Calls Tryz.prog 28 #[.agg #[.pointer (some ⟨h1, 0, none⟩), .pointer (some ⟨h2, 0, none⟩)], .int .u64 addr, .int .i64 4, .int .u64 v] w fun e w' => e = .returned (.tuple #[]) ∧ ∃ F1' F2', Duo W w' h1 h2 base n (wr mem (addr - base).toNat 4 v) F1' F2' ∧ (∀ k, k < w.heap.size → F1' k → F1 k) ∧ (∀ k, k < w.heap.size → F2' k → F2 k) ∧ Mod (fun k => F1 k ∨ F2 k) w w' := by
  have D := Lib.hid d
  have P1 := Lib.hid (fun (w1 : World) (r : Ram w1 h1 base n mem F1) => write_z r addr v 4 4 rfl ha hv (by decide) hh)
  have P2 := Lib.hid (fun (w1 : World) (r : Ref.Mem w1 h2 base n mem F2) => rwrite_z r addr v 4 4 rfl ha hv (by decide) hh)
  have hu := Tryz.underlying40
  clear d ha hv hh
  go_enter Tryz.func28, Tryz.ntmps28
  go_wp2_with (first
    | ((with_reducible refine Step.gate_box (t := 40) rfl ?_); refine Step.fresh (cs := #[.pointer (some ⟨h1, 0, none⟩), .pointer (some ⟨h2, 0, none⟩)]) (T := 40) rfl ?hr ?_; (case hr => first | (go_simp; done) | (go_simp; rfl)); intro g w2 b hg hb; have c0 := b.cell 0; have B := Lib.hid b; have D2 := Lib.hid (D.out.below hb); have HB := Lib.hid hb; have HG := Lib.hid hg; simp only [List.getElem?_toArray, List.getElem?_cons_zero] at c0; clear b hg hb)
    | (go_at_call 46; refine (P1.out _ D2.out.one).mono ?_; rintro e w3 ⟨rfl, r, m⟩; have R1 := Lib.hid r; have M1 := Lib.hid m; have c1 := (((B.out.mod m (fun hf => by have := D.out.bound g (.inl hf); have := HG.out; omega)).cell 1)); have r2 := Lib.hid (D2.out.two.mod m (fun k h2 h1 => D.out.apart k h1 h2)); simp only [List.getElem?_toArray, List.getElem?_cons_zero, List.getElem?_cons_succ] at c1; clear r m)
    | (go_at_call 29; refine (P2.out _ r2.out).mono ?_; rintro e w4 ⟨rfl, r, m⟩; have R2 := Lib.hid r; have M2 := Lib.hid m; clear r m))
  go_end0
  have dd := D2.out.step R1.out M1.out R2.out M2.out
  have hs := HB.out.size
  refine ⟨rfl, _, _, dd, fun k hk h => h.elim id fun h => by omega, fun k hk h => h.elim id fun h => by have := M1.out.size; omega, ?_⟩
  refine ((Mod.of_below HB.out _).trans (M1.out.mono fun k _ h => .inl h)).trans (M2.out.mono fun k _ h => .inr h)
end Go.Proofs.YthkodjkkcgdmfaaGreat.Duo
namespace Go.Proofs.YthkodjkkcgdmfaaGreat.Hart
open Go Go.RowKit Go.Proofs.YthkodjkkcgdmfaaGreat.Step Go.Proofs.YthkodjkkcgdmfaaGreat.Enc Go.Proofs.YthkodjkkcgdmfaaGreat.Kn
open Go.Proofs.YthkodjkkcgdmfaaGreat.Mem (Ram Grow hasB newB wholeB num wr Rd fl Arg lst)
open Go.Proofs.YthkodjkkcgdmfaaGreat.Duo (Duo RdC cm size_two)
set_option linter.unusedVariables false
set_option linter.unusedSimpArgs false
set_option maxRecDepth 100000
set_option maxHeartbeats 4000000 in
theorem rEncode_at (i : Ins) (u : Int) (hr : InR i) (hu : W32 u) (hd : dec u = some i) (T1 : Hid (∀ w, Calls Tryz.prog 45 #[.int .u32 u] w fun e w' => e = .returned (told (dec u)) ∧ Below w.heap.size w w')) (T0 : Hid (∀ w, Calls Tryz.prog 44 #[.agg i.cells] w fun e w' => e = .returned (.int .u32 u) ∧ Below w.heap.size w w')) (w : World) :
    Calls Tryz.prog 27 #[.agg i.cells] w fun e w' => e = .returned (.tuple #[.int .u32 u, .bool true]) ∧ Below w.heap.size w w' := by
  have TI := Lib.hid in_any
  obtain ⟨k, fn, rd, rs1, rs2, imm, sz, sg⟩ := i
  have hf : decide (imm < -2147483648) = false ∧ decide (2147483648 ≤ imm) = false ∧ (decide (0 ≤ rd) && decide (rd ≤ 31)) = true ∧ (decide (0 ≤ rs1) && decide (rs1 ≤ 31)) = true ∧ (decide (0 ≤ rs2) && decide (rs2 ≤ 31)) = true ∧ (decide (0 ≤ fn) && decide (fn ≤ 28)) = true ∧ (decide (0 ≤ sz) && decide (sz ≤ 8)) = true := by
    simp only [InR] at hr
    refine ⟨decide_eq_false (by omega), decide_eq_false (by omega), ?_, ?_, ?_, ?_, ?_⟩ <;> (simp only [Bool.and_eq_true, decide_eq_true_eq]; omega)
  clear hr
  obtain ⟨f0, f1, f2, f3, f4, f5, f6⟩ := hf
  simp only [Ins.cells] at T0 ⊢
  rw [hd] at T1
  clear hd hu
  simp only [told, Ins.cells] at T1
  go_enter Tryz.func27, Tryz.ntmps27
  go_wp2_with (first
    | (go_at_call 43; (with_reducible refine (TI.out _ _ _ _).mono ?_); rintro e w' ⟨rfl, hb⟩; (try replace PB := Lib.hid (PB.out.below hb)); replace ST := Lib.hid (ST.out.call hb); clear hb)
    | (go_at_call 44; (with_reducible refine (T0.out _).mono ?_); rintro e w' ⟨rfl, hb⟩; (try replace PB := Lib.hid (PB.out.below hb)); replace ST := Lib.hid (ST.out.call hb); clear hb)
    | (go_at_call 45; (with_reducible refine (T1.out _).mono ?_); rintro e w' ⟨rfl, hb⟩; (try replace PB := Lib.hid (PB.out.below hb)); replace ST := Lib.hid (ST.out.call hb); clear hb)
    | ((with_reducible refine Step.gate_alloc (t := 44) rfl ?_); refine Step.freshAlloc rfl rfl (alloc_agg zero_inst) ?_; intro g2 w2 b hg hb; replace ST := Lib.hid (ST.out.more b hg hb); clear b hg hb)
    | ((with_reducible refine Step.gate_box (t := 44) rfl ?_); refine Step.fresh (cs := #[.int .i64 k, .int .i64 fn, .int .i64 rd, .int .i64 rs1, .int .i64 rs2, .int .i64 imm, .int .i64 sz, .bool sg]) (T := 44) rfl ?hr ?_; (case hr => first | (go_simp; done) | (go_simp; rfl)); intro g1 w1 b hg hb; have ST := Lib.hid (S1.made b hg hb); clear b hg hb)
    | ((with_reducible refine Step.gate_load (t := 3) rfl ?_); refine loadW1 ST.out.one rfl rfl rfl pl_int rfl ?_)
    | ((with_reducible refine Step.gate_store (t := 3) rfl ?_); refine Step.store ST.out.one rfl rfl rfl rfl rfl pl_int rfl rfl ?_; intro w3 nb m; replace ST := Lib.hid (ST.out.set1 nb m); clear nb m)
    | ((with_reducible refine Step.gate_store (t := 4) rfl ?_); refine Step.store ST.out.one rfl rfl rfl rfl rfl pl_bool rfl rfl ?_; intro w3 nb m; replace ST := Lib.hid (ST.out.set1 nb m); clear nb m)
    | ((with_reducible refine Step.gate_store (t := 44) rfl ?_); refine Step.storeAll ST.out.one rfl rfl rfl rfl rfl size_inst rfl rfl ?_; intro w3 nb m; replace ST := Lib.hid (ST.out.set1 nb m); clear nb m)
    | ((with_reducible refine Step.gate_load (t := 3) rfl ?_); refine Step.load ST.out.one rfl rfl rfl pl_int rfl ?_)
    | ((with_reducible refine Step.gate_load (t := 4) rfl ?_); refine Step.load ST.out.one rfl rfl rfl pl_bool rfl ?_)
    | ((with_reducible refine Step.gate_load (t := 44) rfl ?_); refine Step.loadAll ST.out.one rfl rfl rfl Tryz.underlying44 rfl size_inst ?_)
    | ((with_reducible refine Step.gate_store (t := 3) rfl ?_); refine Step.store ST.out.two rfl rfl rfl rfl rfl pl_int rfl rfl ?_; intro w3 nb m; replace ST := Lib.hid (ST.out.set2 nb m); clear nb m)
    | ((with_reducible refine Step.gate_store (t := 4) rfl ?_); refine Step.store ST.out.two rfl rfl rfl rfl rfl pl_bool rfl rfl ?_; intro w3 nb m; replace ST := Lib.hid (ST.out.set2 nb m); clear nb m)
    | ((with_reducible refine Step.gate_store (t := 44) rfl ?_); refine Step.storeAll ST.out.two rfl rfl rfl rfl rfl size_inst rfl rfl ?_; intro w3 nb m; replace ST := Lib.hid (ST.out.set2 nb m); clear nb m)
    | ((with_reducible refine Step.gate_load (t := 3) rfl ?_); refine Step.load ST.out.two rfl rfl rfl pl_int rfl ?_)
    | ((with_reducible refine Step.gate_load (t := 4) rfl ?_); refine Step.load ST.out.two rfl rfl rfl pl_bool rfl ?_)
    | ((with_reducible refine Step.gate_load (t := 44) rfl ?_); refine Step.loadAll ST.out.two rfl rfl rfl Tryz.underlying44 rfl size_inst ?_)
    | ((with_reducible refine Step.gate_load (t := 44) rfl ?_); refine loadAllW ST.out.one rfl rfl rfl Tryz.underlying44 rfl size_inst ?_)
    | ((with_reducible refine Step.gate_load (t := 44) rfl ?_); refine loadAllW ST.out.two rfl rfl rfl Tryz.underlying44 rfl size_inst ?_))
  go_ret2
  exact ⟨rfl, ST.out.below⟩
theorem word_at (i : Ins) (hr : InR i) (w : World) : Calls Tryz.prog 44 #[.agg i.cells] w fun e w' => e = .returned (.int .u32 (wordP i)) ∧ Below w.heap.size w w' :=
  word_any i.k i.fn i.rd i.rs1 i.rs2 i.imm i.sz i.sg hr.2.2.2.2.1 hr.2.2.2.2.2 w
section
variable {W w : World} {h1 h2 n : Nat} {base : Int} {m1 m2 : Nat → Int} {F1 F2 : Nat → Prop} {L L' : Blks}
theorem _root_.Go.Proofs.YthkodjkkcgdmfaaGreat.Kn.Kn.sub {S : Nat → Prop} (k : Kn S W w L) (s : L'.Sublist L) : Kn S W w L' := ⟨k.mod, fun p h => k.blk p (s.subset h), fun p h => k.own p (s.subset h), k.nod.sublist s⟩
theorem DK.sub (d : DK W w h1 h2 base n m1 m2 F1 F2 L) (s : L'.Sublist L) : DK W w h1 h2 base n m1 m2 F1 F2 L' := ⟨d.one, d.two, d.apart, d.new, d.kn.sub s, fun k hk p hp => d.ap k hk p (s.subset hp)⟩
end
theorem DK.start {W V w : World} {h1 h2 n : Nat} {base : Int} {mem : Nat → Int} {F1 F2 : Nat → Prop} {L : Blks} (k : Kn Step.Nil W V L) (d : Duo V w h1 h2 base n mem F1 F2) : DK W w h1 h2 base n mem mem F1 F2 L :=
  DK.of (d.ahead k.below) (k.call d.out) fun j hj p hp e => by
    have := (k.blk p hp).lt
    have := d.new j hj
    omega
theorem results_t3 {P : Program} {fn : Func} {a p d : Tmp} {ty : TypeId} (h : fn.results = #[.tmp a, .cell p ty, .tmp d]) (tmps : Array Value) (w : World) (g : Nat) (t : TypeId) (cs : Array Value) (de : TypeDesc)
    (hp : tmps.getD p undef = .pointer (some ⟨g, 0, none⟩)) (hg : Blk w g cs t) (hu : P.underlying ty = some de) (hd : (match de with | .struct _ | .array _ _ => true | _ => false) = true) (hi : (P.info? ty).map (·.size) = some cs.size) :
    (results fn tmps).run P w = .ok (.tuple #[tmps.getD a undef, .agg cs, tmps.getD d undef]) w := by
  have h2 := run_loadVar_row (P := P) w g t ty cs (0, 0) de hg.out hu hd hi
  have e : (results fn tmps).run P w = ((asAddr (tmps.getD p undef)).run P w).andThen fun ad w₁ => ((loadVar ty ad).run P w₁).andThen fun v w₂ => .ok (.tuple #[tmps.getD a undef, v, tmps.getD d undef]) w₂ := by
    simp only [results, h]
    simp [Sem.run_bind, Result.andThen]
  rw [e, hp]
  simp only [asAddr, Sem.run_pure, Result.andThen_ok, h2]
theorem wrap32 {u : Int} (h : W32 u) : IntKind.u64.wrap u = u := IntWalk.u64_in _ (by have := h.out; omega)
theorem one_new : newB 2147483648 1 = true := by decide
set_option maxHeartbeats 8000000 in
theorem one_any (W : World) (i : Ins) (hr : InR i) (hw : W32 (wordP i)) (hd : dec (wordP i) = some i) (TD : Hid (∀ w, Calls Tryz.prog 45 #[.int .u32 (wordP i)] w fun e w' => e = .returned (told (dec (wordP i))) ∧ Below w.heap.size w w')) (A : Option Addr) (len cap : Nat) (f : Nat → Int × Int) (r : RdC W A len f (· < W.heap.size)) (hl : len ≤ 9223372036854775807) :
    Calls Tryz.prog 22 #[.agg i.cells, .slice A len cap] W fun e w' => ∃ gc gt h1 h2 F1 F2, e = .returned (.tuple #[.pointer (some ⟨gc, 0, none⟩), .agg #[.pointer (some ⟨h1, 0, none⟩), .pointer (some ⟨h2, 0, none⟩)], .bool true]) ∧ DK W w' h1 h2 2147483648 1 (wr (cm 1 f len) 0 4 (wordP i)) (wr (cm 1 f len) 0 4 (wordP i)) F1 F2 ((gc, ccg h1 (.pointer (some ⟨gt, 0, none⟩)) 0 0 0 0 (.map none), TC) :: (gt, #[.int .i64 1, .slice none 0 0], 115) :: []) := by
  have TM := Lib.hid (fun (X : World) (bl : Below W.heap.size W X) => Duo.memory_any X 2147483648 1 1 rfl (by decide) one_new A len cap f ((r.mod (Mod.of_below bl Step.Nil) (fun _ _ h => h) fun _ h => h).wide fun k hk => Nat.lt_of_lt_of_le hk bl.size) hl)
  have TE := Lib.hid (rEncode_at i (wordP i) hr hw hd TD (Lib.hid (word_at i hr)))
  have HW := Lib.hid hw
  have e32 := wrap32 hw
  clear r hl hr hd hw TD
  generalize wordP i = u at *
  obtain ⟨k, fn, rd, rs1, rs2, imm, sz, sg⟩ := i
  simp only [Ins.cells] at TE ⊢
  go_enter Tryz.func22, Tryz.ntmps22
  have ST := Lib.hid (Kn.nil (S := Step.Nil) (W := W))
  go_wp2_with (first
    | ((with_reducible refine Step.gate_box (t := 44) rfl ?_); refine Step.fresh (cs := #[.int .i64 k, .int .i64 fn, .int .i64 rd, .int .i64 rs1, .int .i64 rs2, .int .i64 imm, .int .i64 sz, .bool sg]) (T := 44) rfl ?hr ?_; (case hr => first | (go_simp; done) | (go_simp; rfl)); intro g2 w1 b hg hb; replace ST := Lib.hid (ST.out.made b hg hb); clear b hb; clear hg)
    | ((with_reducible refine Step.gate_alloc (t := 40) rfl ?_); refine Step.freshAlloc rfl rfl (Duo.alloc_agg Duo.zero_two) ?_; (first | (have this := ST.out.duo; intro g7 w2 b hg hb; clear this) | intro g5 w2 b hg hb); replace ST := Lib.hid (ST.out.made b hg hb); clear b hb hg)
    | (go_at_call 35; (with_reducible refine (TM.out _ ST.out.below).mono ?_); rintro e wm ⟨h1, h2, F1, F2, rfl, d⟩; replace ST := Lib.hid (DK.start ST.out d); clear d)
    | ((with_reducible refine Step.gate_store (t := 40) rfl ?_); refine Step.storeAll (vs := #[.pointer (some ⟨h1, 0, none⟩), .pointer (some ⟨h2, 0, none⟩)]) ST.out.kn.at0 rfl rfl rfl rfl rfl size_two rfl rfl ?_; intro w3 nb m; replace ST := Lib.hid (ST.out.set (ST.out.kn.set0 nb m) m ⟨_, List.mem_cons_self .., rfl⟩ rfl); clear nb m)
    | (go_at_call 36; (with_reducible refine (tlb_new1 _).mono ?_); rintro e w' ⟨gt, rfl, hg, b, hb⟩; replace ST := Lib.hid (ST.out.made b hg hb); clear hg b hb)
    | (go_at_call 27; (with_reducible refine (TE.out _).mono ?_); rintro e w' ⟨rfl, hb⟩; replace ST := Lib.hid (ST.out.call hb); clear hb)
    | ((with_reducible refine Step.gate_load (t := 44) rfl ?_); refine Step.loadAll ST.out.kn.at3 rfl rfl rfl Tryz.underlying44 rfl size_inst ?_)
    | ((with_reducible refine Step.gate_load (t := 40) rfl ?_); refine Step.loadAll ST.out.kn.at1 rfl rfl rfl Tryz.underlying40 rfl size_two ?_)
    | (go_at_call 28; (with_reducible refine (Duo.wboth4 ST.out.duo 2147483648 u (by decide) (by have := HW.out.out; omega) (by decide)).mono ?_); rintro e w9 ⟨rfl, F1', F2', hd, f1, f2, m⟩; replace ST := Lib.hid (ST.out.duoTurn hd f1 f2 m); clear hd f1 f2 m)
    | ((with_reducible refine Step.gate_load (t := 37) rfl ?_); refine Step.load ST.out.kn.at1 rfl rfl rfl pl_pm rfl ?_)
    | (go_at_call 37; (with_reducible refine (core_new _ _ _).mono ?_); rintro e w' ⟨gc, rfl, hg, b, hb⟩; replace ST := Lib.hid (ST.out.made b hg hb); clear hg b hb))
  obtain ⟨mw, hm⟩ : ∃ x, x = wr (cm 1 f len) ((2147483648 : Int) - 2147483648).toNat 4 u := ⟨_, rfl⟩
  have hm2 : mw = wr (cm 1 f len) 0 4 u := hm
  rw [← hm] at ST
  clear hm
  ((with_reducible refine Sq.regionJ (id := 8) (J := fun j X => DK W X h1 h2 2147483648 1 mw mw F1' F2' [(gc, ccg h1 (.pointer (some ⟨gt, 0, none⟩)) 0 0 0 0 (.map none), TC), (gt, #[.int .i64 1, .slice none 0 0], 115), (g7, #[.pointer (some ⟨h1, 0, none⟩), .pointer (some ⟨h2, 0, none⟩)], 40), (g5, (match j with | 0 => #[.pointer none, .pointer none] | _ => #[.pointer (some ⟨h1, 0, none⟩), .pointer (some ⟨h2, 0, none⟩)]), 40), (g2, #[.int .i64 k, .int .i64 fn, .int .i64 rd, .int .i64 rs1, .int .i64 rs2, .int .i64 imm, .int .i64 sz, .bool sg], 44)]) ?hm1 7 [5] [.keep 0 0, .keep 0 0, .keep 0 1, .keep 0 1, .keep 0 0, .eff 0, .keep 1 1] ?hi1 ?hp1 ?hf1 ?hs1); (case hm1 => rfl); (case hi1 => exact (show DK W _ h1 h2 2147483648 1 mw mw F1' F2' [(gc, ccg h1 (.pointer (some ⟨gt, 0, none⟩)) 0 0 0 0 (.map none), TC), (gt, #[.int .i64 1, .slice none 0 0], 115), (g7, #[.pointer (some ⟨h1, 0, none⟩), .pointer (some ⟨h2, 0, none⟩)], 40), (g5, #[.pointer none, .pointer none], 40), (g2, #[.int .i64 k, .int .i64 fn, .int .i64 rd, .int .i64 rs1, .int .i64 rs2, .int .i64 imm, .int .i64 sz, .bool sg], 44)] from ST.out.call (Below.drew (Below.refl _ _)))); (case hp1 => kernel_rfl); (case hf1 => kernel_rfl); intro ops K hops hK; clear hops; dsimp only [List.take]; (repeat (first | (refine Sq.seqJ_move rfl rfl ?_; simp only [Act.put, Act.eval, Array.getD_eq_getD_getElem?, List.getElem?_toArray, List.getElem?_cons_zero, List.getElem?_cons_succ, Option.getD_some, List.setIfInBounds_toArray, List.set_cons_zero, List.set_cons_succ]) | (refine Sq.seqJ_check rfl rfl rfl ?_; simp only [Act.put, Act.eval, Array.getD_eq_getD_getElem?, List.getElem?_toArray, List.getElem?_cons_zero, List.getElem?_cons_succ, Option.getD_some, List.setIfInBounds_toArray, List.set_cons_zero, List.set_cons_succ]) | (refine Sq.seqJ_row (t := 40) (cs := fun _ => #[.pointer (some ⟨h1, 0, none⟩), .pointer (some ⟨h2, 0, none⟩)]) (fun j _ _ X hX => (DK.kn hX).at2) (Sq.wanted_none rfl) rfl rfl (fun _ => Sq.row_all _) Tryz.underlying40 rfl size_two ?_; simp only [Act.put, Act.eval, Array.getD_eq_getD_getElem?, List.getElem?_toArray, List.getElem?_cons_zero, List.getElem?_cons_succ, Option.getD_some, List.setIfInBounds_toArray, List.set_cons_zero, List.set_cons_succ]) | (refine Sq.seqJ_storeRow (g := g5) (k := 0) (cs := #[.pointer none, .pointer none]) (vs := #[.pointer (some ⟨h1, 0, none⟩), .pointer (some ⟨h2, 0, none⟩)]) (fun X hX => (DK.kn hX).at3) rfl rfl rfl rfl rfl size_two rfl rfl (fun X X' hX nb m => ?_) ?_; · exact DK.set hX (Kn.set3 (DK.kn hX) (show Blk X' g5 #[.pointer (some ⟨h1, 0, none⟩), .pointer (some ⟨h2, 0, none⟩)] 40 from nb) m) m ⟨_, List.mem_of_getElem? (i := 3) rfl, rfl⟩ rfl) | (refine' Sq.seqJ_pure rfl (fun X => _) _; rotate_left; (first | (go_simp; done) | (go_simp; rfl)); simp only [Act.put, Act.eval, Array.getD_eq_getD_getElem?, List.getElem?_toArray, List.getElem?_cons_zero, List.getElem?_cons_succ, Option.getD_some, List.setIfInBounds_toArray, List.set_cons_zero, List.set_cons_succ]))); refine Sq.seqJ_nil ?_; refine hK.out _ fun w1 hk => ?_; clear hK; replace ST := Lib.hid (show DK W w1 h1 h2 2147483648 1 mw mw F1' F2' [(gc, ccg h1 (.pointer (some ⟨gt, 0, none⟩)) 0 0 0 0 (.map none), TC), (gt, #[.int .i64 1, .slice none 0 0], 115), (g7, #[.pointer (some ⟨h1, 0, none⟩), .pointer (some ⟨h2, 0, none⟩)], 40), (g5, #[.pointer (some ⟨h1, 0, none⟩), .pointer (some ⟨h2, 0, none⟩)], 40), (g2, #[.int .i64 k, .int .i64 fn, .int .i64 rd, .int .i64 rs1, .int .i64 rs2, .int .i64 imm, .int .i64 sz, .bool sg], 44)] from hk); clear hk; dsimp only [List.drop])
  go_wp2
  all_goals subst hm2
  all_goals exact bodyPost_ret (results_t3 rfl _ _ _ _ _ _ rfl ST.out.kn.at3 Tryz.underlying40 rfl size_two) rfl ⟨gc, gt, h1, h2, F1', F2', rfl, ST.out.sub (List.Sublist.cons_cons _ (List.Sublist.cons_cons _ (List.nil_sublist _)))⟩
end Go.Proofs.YthkodjkkcgdmfaaGreat.Hart
end
section
namespace Go.Proofs.YthkodjkkcgdmfaaGreat.Hart
open Go Go.RowKit Go.Proofs.YthkodjkkcgdmfaaGreat.Step Go.Proofs.YthkodjkkcgdmfaaGreat.Enc Go.Proofs.YthkodjkkcgdmfaaGreat.Kn
open Go.Proofs.YthkodjkkcgdmfaaGreat.Mem (Ram Grow hasB wholeB num wr Rd fl Arg lst)
open Go.Proofs.YthkodjkkcgdmfaaGreat.Duo (Duo RdC cm size_two)
set_option linter.unusedVariables false
set_option linter.unusedSimpArgs false
set_option maxRecDepth 100000
theorem aw_alu : aluV 1 0 5 = 5 := by unfold aluV; rw [if_pos rfl]; decide
theorem aw_x1 (gc : Nat) : (zeroX (awS gc)).h.x 1 = 5 := by
  show aluV 1 0 5 = 5
  exact aw_alu
theorem aw_pc (gc : Nat) : (zeroX (awS gc)).h.pc = 2147483652 := by
  show addW (ord (resetH 2147483648 0 0)).pc 4 = 2147483652
  decide +kernel
theorem aw_c1 (gc : Nat) : (hc (zeroX (awS gc)).h)[1]? = some (.int .u64 5) := by
  show some (Value.int .u64 ((zeroX (awS gc)).h.x 1)) = _
  rw [aw_x1]
theorem aw_c32 (gc : Nat) : (hc (zeroX (awS gc)).h)[32]? = some (.int .u64 2147483652) := by
  show some (Value.int .u64 (zeroX (awS gc)).h.pc) = _
  rw [aw_pc]
section
variable {W X w w' : World} {h1 h2 n g : Nat} {base : Int} {m1 m2 : Nat → Int} {F1 F2 : Nat → Prop} {L : Blks} {p0 p1 : Nat × Array Value × TypeId} {c : Array Value} {T : TypeId}
theorem DK.core2 {tv : Value} {vmid : Int} {km : Value} (d : DK W w h1 h2 base n m1 m2 F1 F2 (p0 :: p1 :: (g, ccg h1 tv 0 vmid 0 0 km, TC) :: L)) : Kor w g h1 tv vmid base n m1 F1 := d.drop.drop.core (done := 0) (st := 0)
theorem DK.gone (K0 : Below W.heap.size W X) (d : DK X w h1 h2 base n m1 m2 F1 F2 (p0 :: p1 :: (g, c, T) :: L)) (m : Mod (fun k => k = g ∨ F1 k) w w') : Kn Step.Nil W w' [] := by
  have hz := K0.size
  have ho : ¬ g < X.heap.size := fun h => d.drop.drop.kn.own (g, c, T) (List.mem_cons_self ..) h
  refine ⟨((Mod.of_below K0 Step.Nil).trans d.kn.mod).trans_new m fun i hi e => ?_, (fun _ h => nomatch h), (fun _ h => nomatch h), List.Pairwise.nil⟩
  rcases e with e | e
  · have e' : i = g := e
    exact absurd hi (by omega)
  · have := d.new i (.inl e)
    exact absurd hi (by omega)
end
set_option maxHeartbeats 8000000 in
theorem awake_any (W : World) : Calls Tryz.prog 15 #[] W fun e w' => e = .returned (.bool true) ∧ Below W.heap.size W w' := by
  go_enter Tryz.func15, Tryz.ntmps15
  have ST := Lib.hid (Kn.nil (S := Step.Nil) (W := W))
  go_wp2_with (first
    | ((with_reducible refine Step.gate_alloc (t := 25) rfl ?_); refine Step.freshAlloc rfl rfl (alloc_agg zero_hart) ?_; intro g7 w2 b hg hb; replace ST := Lib.hid (ST.out.made b hg hb); clear b hb; clear hg)
    | ((with_reducible refine Step.gate_alloc (t := 46) rfl ?_); refine Step.freshAlloc rfl rfl (alloc_agg zero_ev) ?_; intro g8 w2 b hg hb; replace ST := Lib.hid (ST.out.made b hg hb); clear b hb; clear hg)
    | ((with_reducible refine Step.gate_store (t := 25) rfl ?_); refine Step.storeAll ST.out.at1 rfl rfl rfl rfl rfl (size_hart _) rfl (hc_all _) ?_; intro w3 nb m; replace ST := Lib.hid (ST.out.set1 nb m); clear nb m)
    | ((with_reducible refine Step.gate_store (t := 46) rfl ?_); refine Step.storeAll (vs := #[.int .i64 0, .int .i64 0, .int .u64 0, .int .u64 0, .bool false, .bool false]) ST.out.at0 rfl rfl rfl rfl rfl size_ev rfl rfl ?_; intro w3 nb m; replace ST := Lib.hid (ST.out.set0 nb m); clear nb m)
    | ((with_reducible refine Step.gate_load (t := 46) rfl ?_); refine Step.loadAll ST.out.at0 rfl rfl rfl Tryz.underlying46 rfl size_ev ?_)
    | ((with_reducible refine Step.gate_load (t := 22) rfl ?_); refine Step.loadG ST.out.at1 rfl rfl rfl pl_u64 (aw_c1 gc) ?_)
    | ((with_reducible refine Step.gate_load (t := 22) rfl ?_); refine Step.loadG ST.out.at1 rfl rfl rfl pl_u64 (aw_c32 gc) ?_)
    | ((with_reducible refine Step.gate_build (t := 66) rfl ?_); refine Step.freshSlice (cs := #[.int .u8 147, .int .u8 0, .int .u8 80, .int .u8 0]) (T := 5) (n := 4) (m := 4) rfl ?hr ?_; (case hr => first | (go_simp; done) | (go_simp; rfl)); intro gs w1 b hg hb; replace ST := Lib.hid (ST.out.made b hg hb); clear b hg hb)
    | (go_at_call 20; (with_reducible refine (reset_any 2147483648 0 0 ⟨by decide, by decide⟩ _).mono ?_); rintro e w' ⟨rfl, hb⟩; replace ST := Lib.hid (ST.out.call hb); clear hb)
    | ((with_reducible refine gate_buildS (t := 69) rfl ?_); refine Step.value (v := .agg (zC 2147483648 (some ⟨gs, 0, none⟩) 4 4 (resetH 2147483648 0 0))) rfl (build_case rfl rfl rfl rfl _) ?_)
    | ((with_reducible refine Step.gate_alloc (t := 69) rfl ?_); refine Step.freshAlloc rfl rfl (alloc_agg zero_case) ?_; intro g1 w2 b hg hb; replace ST := Lib.hid (ST.out.made b hg hb); clear b hb; clear hg)
    | ((with_reducible refine Step.gate_store (t := 69) rfl ?_); refine Step.storeAll ST.out.at0 rfl rfl rfl rfl rfl (size_case _ _ _ _ _) rfl (case_all _ _ _ _ _) ?_; intro w3 nb m; replace ST := Lib.hid (ST.out.set0 nb m); clear nb m)
    | ((with_reducible refine Step.gate_load (t := 69) rfl ?_); refine Step.loadAll ST.out.at0 rfl rfl rfl Tryz.underlying69 rfl (size_case _ _ _ _ _) ?_)
    | (go_at_call 32; (with_reducible refine (both_aw ST.out.at1 _).mono ?_); rintro e w9 ⟨gc, gcr, gt, gtr, h1, h2, F1, F2, L, rfl, d⟩; have B1 := Lib.hid (d.kn.stood ST.out.at0 (fun h => h)); have D := Lib.hid d; have K0 := Lib.hid ST.out.below; clear d)
    | ((with_reducible refine Step.gate_alloc (t := 40) rfl ?_); refine Step.freshAlloc rfl rfl (Duo.alloc_agg Duo.zero_two) ?_; intro g5 w2 b hg hb; have N5 := Lib.hid (show g1 ≠ g5 from fun e => by have := B1.out.lt; omega); replace B1 := Lib.hid (B1.out.below hb); replace D := Lib.hid (D.out.made b hg hb); clear b hg hb)
    | ((with_reducible refine Step.gate_store (t := 40) rfl ?_); refine Step.storeAll D.out.kn.at0 rfl rfl rfl rfl rfl size_two rfl rfl ?_; intro w3 nb m; replace B1 := Lib.hid (B1.out.one m N5.out); replace D := Lib.hid (D.out.set (D.out.kn.set0 nb m) m ⟨_, List.mem_cons_self .., rfl⟩ rfl); clear nb m)
    | ((with_reducible refine Step.gate_load (t := 25) rfl ?_); refine Step.loadMid B1.out rfl rfl rfl (row_case _ _ _ _ _) Tryz.underlying25 rfl (size_hart _) ?_)
    | (go_at_call 23; (with_reducible refine (step_aw (gc := gc) D.out.core2).mono ?_); rintro e w10 ⟨rfl, F3, hk, m, hF⟩; replace ST := Lib.hid (D.out.gone K0.out m); clear hk m hF))
  go_ret
  exact ⟨rfl, ST.out.below⟩
end Go.Proofs.YthkodjkkcgdmfaaGreat.Hart
end
section
namespace Go.Proofs.YthkodjkkcgdmfaaGreat.Hart
open Go Go.RowKit Go.Proofs.YthkodjkkcgdmfaaGreat.Step Go.Proofs.YthkodjkkcgdmfaaGreat.Enc Go.Proofs.YthkodjkkcgdmfaaGreat.Kn
open Go.Proofs.YthkodjkkcgdmfaaGreat.Mem (Ram Grow hasB newB wholeB num wr Rd fl Arg lst)
open Go.Proofs.YthkodjkkcgdmfaaGreat.Duo (Duo RdC cm size_two)
set_option linter.unusedVariables false
set_option linter.unusedSimpArgs false
set_option maxRecDepth 100000
section
variable {W X w w' : World} {h1 h2 n g : Nat} {base : Int} {m1 m2 m1' : Nat → Int} {F1 F2 F1' : Nat → Prop} {L L' L0 : Blks} {c : Array Value} {T : TypeId} {tv : Value} {vmid : Int}
/-- Two memories and blocks made beside blocks that were known. -/
theorem DK.join (k : Kn Step.Nil W X L0) (d : DK X w h1 h2 base n m1 m2 F1 F2 L) : DK W w h1 h2 base n m1 m2 F1 F2 (L ++ L0) := by
  have hz := k.mod.size
  have k2 := k.call d.below
  refine ⟨d.one, d.two, d.apart, fun j hj => Nat.le_trans hz (d.new j hj), ⟨k2.mod, fun p hp => ?_, fun p hp hl => ?_, List.pairwise_append.2 ⟨d.kn.nod, k.nod, fun a ha b hb e => ?_⟩⟩, fun j hj p hp e => ?_⟩
  · rcases List.mem_append.1 hp with h | h
    · exact d.kn.blk p h
    · exact k2.blk p h
  · rcases List.mem_append.1 hp with h | h
    · exact (d.kn.own p h (by omega)).elim
    · exact k.own p h hl
  · have h1 := (k.blk b hb).lt
    rw [← e] at h1
    exact (d.kn.own a ha h1).elim
  · rcases List.mem_append.1 hp with h | h
    · exact d.ap j hj p h e
    · have := (k.blk p h).lt
      have := d.new j hj
      omega
/-- A step of the core turned its memory. -/
theorem DK.step (d : DK W w h1 h2 base n m1 m2 F1 F2 ((g, c, T) :: L)) (hk : Kor w' g h1 tv vmid base n m1' F1') (m : Mod (fun k => k = g ∨ F1 k) w w') (hF : ∀ k, F1' k → F1 k ∨ w.heap.size ≤ k) : DK W w' h1 h2 base n m1' m2 F1' F2 L := by
  have hg := fun k hk => (d.ap k (.inr hk) (g, c, T) (List.mem_cons_self ..))
  have hnod := List.pairwise_cons.1 d.kn.nod
  have hW := d.kn.mod.size
  refine ⟨hk.ram, d.two.mod m fun k h2 h => ?_, fun k h1 h2 => ?_, fun k h => ?_, d.kn.drop.turn m (fun p hp h => ?_) (fun i hi h => ?_), fun k h p hp e => ?_⟩
  · rcases h with h | h
    · exact hg k h2 h.symm
    · exact d.apart k h h2
  · rcases hF k h1 with h | h
    · exact d.apart k h h2
    · have := d.two.bound k h2; omega
  · rcases h with h | h
    · rcases hF k h with h | h
      · exact d.new k (.inl h)
      · omega
    · exact d.new k (.inr h)
  · rcases h with h | h
    · exact hnod.1 p hp (h : p.1 = g).symm
    · exact d.ap p.1 (.inl h) p (List.mem_cons_of_mem _ hp) rfl
  · rcases h with h | h
    · have h' : i = g := h
      subst h'
      exact (d.kn.own (i, c, T) (List.mem_cons_self ..) hi).elim
    · have := d.new i (.inl h); omega
  · have hb := (d.kn.blk p (List.mem_cons_of_mem _ hp)).lt
    rcases h with h | h
    · rcases hF k h with h | h
      · exact d.ap k (.inl h) p (List.mem_cons_of_mem _ hp) e
      · omega
    · exact d.ap k (.inr h) p (List.mem_cons_of_mem _ hp) e
end
theorem fd_op (a : Int) : fd a 6 0 = a % 128 := by
  show a / ((1 : Nat) : Int) % ((128 : Nat) : Int) = a % 128
  omega
theorem dec_low {u : Int} {i : Ins} (h : dec u = some i) : u % 4 = 3 := by
  unfold dec decOp at h
  rw [fd_op] at h
  by_cases c : u % 4 = 3
  · exact c
  · exfalso
    have q : ∀ k : Int, k % 4 = 3 → ¬ u % 128 = k := fun k hk e => c (by omega)
    rw [if_neg (q 55 rfl), if_neg (q 23 rfl), if_neg (q 111 rfl), if_neg (q 103 rfl), if_neg (q 99 rfl), if_neg (q 3 rfl), if_neg (q 35 rfl), if_neg (q 19 rfl), if_neg (q 27 rfl), if_neg (q 51 rfl), if_neg (q 59 rfl), if_neg (q 15 rfl), if_neg (q 115 rfl), if_neg (q 47 rfl)] at h
    cases h
theorem word_lo (m : Nat → Int) (u : Int) (hu : W32 u) : num (wr m 0 4 u) 0 2 = u % 65536 ∧ num (wr m 0 4 u) 2 2 = u / 65536 := by
  have hh := hu.out
  constructor
  · show wr m 0 4 u 0 + 256 * (wr m 0 4 u 1 + 256 * 0) = _
    show u / 256 ^ 0 % 256 + 256 * (u / 256 ^ 1 % 256 + 256 * 0) = _
    omega
  · show wr m 0 4 u 2 + 256 * (wr m 0 4 u 3 + 256 * 0) = _
    show u / 256 ^ 2 % 256 + 256 * (u / 256 ^ 3 % 256 + 256 * 0) = _
    omega
theorem ord_pc0 {h : Hrt} (hpc : h.pc = 2147483648) : (ord h).pc = 2147483648 := by show h.pc / 2 * 2 = _; rw [hpc]; rfl
theorem ord_sie0 {h : Hrt} (hs : h.sie = 0) : (ord h).sie = 0 := by show msk h.sie = _; rw [hs]; kernel_rfl
/-- A step of the word at the beginning, whose kind is 7. -/
theorem step_stores {W : World} {gc gm : Nat} {tv : Value} {m0 mem2 : Nat → Int} {F : Nat → Prop} {s2 : Stp} {u : Int} (hk : Kor W gc gm tv 0 2147483648 1 (wr m0 0 4 u) F) (h : Hrt) (hf : Fit h) (now : Int) (hpc : h.pc = 2147483648) (hsie : h.sie = 0) (hsat : h.satp = 0) (hu : W32 u) {fn rd rs1 rs2 imm sz : Int} {sg : Bool} (hd : dec u = some ⟨7, fn, rd, rs1, rs2, imm, sz, sg⟩) (TD : Hid (∀ w, Calls Tryz.prog 63 #[.int .u32 u] w fun e w' => e = .returned (told (dec u)) ∧ Below w.heap.size w w')) (hg2 : s2.gc = gc)
    (HK : ∀ (W' : World) (gs r : Nat) (F' : Nat → Prop), Sy W' gs (decP (newS gc now (ord h)) u ⟨7, fn, rd, rs1, rs2, imm, sz, sg⟩) gm tv 0 0 (.map (some r)) 2147483648 1 (wr m0 0 4 u) F' (fun k => k = r) (KT r fun _ => True) → Calls Tryz.prog 93 #[.pointer (some ⟨gs, 0, none⟩)] W' fun e w' => e = .returned (.tuple #[]) ∧ Out W' w' gs s2 gm tv 0 0 (.map (some r)) 2147483648 1 mem2 F' (fun k => k = r) (KT r fun _ => True)) :
    Calls Tryz.prog 23 #[.pointer (some ⟨gc, 0, none⟩), .agg (hc h), .int .u64 now] W fun e w' => e = .returned (.tuple #[.agg (hc (zeroX s2).h), .agg (ecells (zeroX s2))]) ∧ ∃ F', Kor w' gc gm tv 0 2147483648 1 mem2 F' ∧ Mod (fun k => k = gc ∨ F k) W w' ∧ ∀ k, F' k → F k ∨ W.heap.size ≤ k := by
  have hh := hu.out
  have e4 : u / 65536 * 65536 + u % 65536 = u := by omega
  have hl := word_lo m0 u hu
  have p0 := ord_pc0 hpc
  refine step_any (s2 := zeroX s2) hk h hf now hg2 fun W' gs r y => ?_
  have hsat2 : (ord h).satp = 0 := hsat
  refine run_stores y (show (ord h).satp / 1152921504606846976 = 0 by rw [hsat2]; rfl) (show U64 (ord h).satp by rw [hsat2]; exact ⟨by decide, by decide⟩) (ord_sie0 hsie) (show 0 ≤ (ord h).pc ∧ (ord h).pc + 2 < 18446744073709551616 by rw [p0]; decide) (show hasB 2147483648 1 (ord h).pc 2 = true by rw [p0]; decide) (show hasB 2147483648 1 ((ord h).pc + 2) 2 = true by rw [p0]; decide) (u % 65536) (u / 65536) (by rw [show (newS gc now (ord h)).was.pc = 2147483648 from p0]; exact hl.1) (by rw [show (newS gc now (ord h)).was.pc = 2147483648 from p0]; exact hl.2) (by omega) (by omega) (by have := dec_low hd; omega) fn rd rs1 rs2 imm sz sg (by rw [e4]; exact hd) (by rw [e4]; exact TD) ?_
  rw [e4]
  exact fun W'' F' y2 => HK W'' gs r F' y2
/-- A step of the word at the beginning, whose kind is 8. -/
theorem step_alu {W : World} {gc gm : Nat} {tv : Value} {m0 mem2 : Nat → Int} {F : Nat → Prop} {s2 : Stp} {u : Int} (hk : Kor W gc gm tv 0 2147483648 1 (wr m0 0 4 u) F) (h : Hrt) (hf : Fit h) (now : Int) (hpc : h.pc = 2147483648) (hsie : h.sie = 0) (hsat : h.satp = 0) (hu : W32 u) {fn rd rs1 rs2 imm sz : Int} {sg : Bool} (hd : dec u = some ⟨8, fn, rd, rs1, rs2, imm, sz, sg⟩) (TD : Hid (∀ w, Calls Tryz.prog 63 #[.int .u32 u] w fun e w' => e = .returned (told (dec u)) ∧ Below w.heap.size w w')) (hg2 : s2.gc = gc)
    (HK : ∀ (W' : World) (gs r : Nat) (F' : Nat → Prop), Sy W' gs (decP (newS gc now (ord h)) u ⟨8, fn, rd, rs1, rs2, imm, sz, sg⟩) gm tv 0 0 (.map (some r)) 2147483648 1 (wr m0 0 4 u) F' (fun k => k = r) (KT r fun _ => True) → Calls Tryz.prog 94 #[.pointer (some ⟨gs, 0, none⟩)] W' fun e w' => e = .returned (.tuple #[]) ∧ Out W' w' gs s2 gm tv 0 0 (.map (some r)) 2147483648 1 mem2 F' (fun k => k = r) (KT r fun _ => True)) :
    Calls Tryz.prog 23 #[.pointer (some ⟨gc, 0, none⟩), .agg (hc h), .int .u64 now] W fun e w' => e = .returned (.tuple #[.agg (hc (zeroX s2).h), .agg (ecells (zeroX s2))]) ∧ ∃ F', Kor w' gc gm tv 0 2147483648 1 mem2 F' ∧ Mod (fun k => k = gc ∨ F k) W w' ∧ ∀ k, F' k → F k ∨ W.heap.size ≤ k := by
  have hh := hu.out
  have e4 : u / 65536 * 65536 + u % 65536 = u := by omega
  have hl := word_lo m0 u hu
  have p0 := ord_pc0 hpc
  refine step_any (s2 := zeroX s2) hk h hf now hg2 fun W' gs r y => ?_
  have hsat2 : (ord h).satp = 0 := hsat
  refine run_alu y (show (ord h).satp / 1152921504606846976 = 0 by rw [hsat2]; rfl) (show U64 (ord h).satp by rw [hsat2]; exact ⟨by decide, by decide⟩) (ord_sie0 hsie) (show 0 ≤ (ord h).pc ∧ (ord h).pc + 2 < 18446744073709551616 by rw [p0]; decide) (show hasB 2147483648 1 (ord h).pc 2 = true by rw [p0]; decide) (show hasB 2147483648 1 ((ord h).pc + 2) 2 = true by rw [p0]; decide) (u % 65536) (u / 65536) (by rw [show (newS gc now (ord h)).was.pc = 2147483648 from p0]; exact hl.1) (by rw [show (newS gc now (ord h)).was.pc = 2147483648 from p0]; exact hl.2) (by omega) (by omega) (by have := dec_low hd; omega) fn rd rs1 rs2 imm sz sg (by rw [e4]; exact hd) (by rw [e4]; exact TD) ?_
  rw [e4]
  exact fun W'' F' y2 => HK W'' gs r F' y2
end Go.Proofs.YthkodjkkcgdmfaaGreat.Hart
end
