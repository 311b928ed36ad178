/- Parts of the walks and laws for the claim: Encode, REnc, WordE, ExpA, Awake, OpenInst, LawEnc; no conditions beyond the theorems' own. -/
import Derived.Carry
import Derived.ChangeArms
import Derived.ChangeOld
import Derived.OpenShut
import Derived.ProofKit
import Derived.ShutString
import Derived.SizedLaws
import Derived.Test.YtchpnbckgofiaaaGreatRows
import Derived.WalkKit
import Derived.Test.YtchpnbckgofiaaaGreatQ13
import Derived.Test.YtchpnbckgofiaaaGreatQ14
import Derived.Test.YtchpnbckgofiaaaGreatQ16
import Derived.Test.YtchpnbckgofiaaaGreatQ17
import Derived.Test.YtchpnbckgofiaaaGreatQ18
import Derived.Test.YtchpnbckgofiaaaGreatQ20
import Derived.Test.YtchpnbckgofiaaaGreatQ23
section
namespace Go.Proofs.YtchpnbckgofiaaaGreat.Enc
open Go Go.RowKit Go.Proofs.YtchpnbckgofiaaaGreat.Step
set_option linter.unusedVariables false
set_option linter.unusedSimpArgs false
set_option maxRecDepth 100000
section
variable {P : Program} {ops : Array Oper} {rest : List Oper} {o : Oper} {a : Act} {W : World} {Q : Exit → Act → World → Prop}
/-- A variable of several cells is read, by an operation whose guard says yes. -/
theorem loadAllW {t : TypeId} {x : Operand} {g : Nat} {cs : Array Value} {T : TypeId} {d : TypeDesc} (hB : Blk W g cs T) (hw : Region.wanted o (yielded ops a.tmps) = true) (ho : o.op = .load t x) (hx : a.eval x = .pointer (some ⟨g, 0, none⟩)) (hu : P.underlying t = some d)
    (hd : (match d with | .struct _ | .array _ _ => true | _ => false) = true) (hi : (P.info? t).map (·.size) = some cs.size) (h : wpList P ops Q rest (a.put o.dst (.agg cs)) W) : wpList P ops Q (o :: rest) a W := by
  refine BigFrame.wpList_want hw fun K hK => ?_
  have h1 := run_loadVar_row (P := P) W g T t cs (0, 0) d hB.out hu hd hi
  have h2 : (execOp a.eval o).run P W = .ok (.value (.agg cs)) W := by simp [execOp, ho, hx, Instr.loadAt, Instr.sureAddr, h1, Result.andThen]
  unfold Oper.wp; rw [h2]; exact hK _ _ h
end
end Go.Proofs.YtchpnbckgofiaaaGreat.Enc
end
section
namespace Go.Proofs.YtchpnbckgofiaaaGreat.Enc
open Go Go.RowKit Go.Proofs.YtchpnbckgofiaaaGreat.Step
set_option linter.unusedVariables false
set_option linter.unusedSimpArgs false
set_option maxRecDepth 100000
section
variable {P : Program} {ops : Array Oper} {rest : List Oper} {o : Oper} {a : Act} {W : World} {Q : Exit → Act → World → Prop}
/-- A cell is read, by an operation whose guard says yes. -/
theorem loadW1 {t : TypeId} {x : Operand} {g i : Nat} {cs : Array Value} {T : TypeId} {v : Value} (hB : Blk W g cs T) (hw : Region.wanted o (yielded ops a.tmps) = true) (ho : o.op = .load t x) (hx : a.eval x = .pointer (some ⟨g, i, none⟩)) (ht : plainT P t = true) (hv : cs[i]? = some v)
    (h : wpList P ops Q rest (a.put o.dst v) W) : wpList P ops Q (o :: rest) a W := by
  refine BigFrame.wpList_want hw fun K hK => ?_
  have h1 := run_load1 (P := P) ht ((hB.cell i).trans hv)
  have h2 : (execOp a.eval o).run P W = .ok (.value v) W := by simp [execOp, ho, hx, h1, Result.andThen]
  unfold Oper.wp; rw [h2]; exact hK _ _ h
end
/-- The fields are within the document's bounds. -/
def InR (i : Ins) : Prop := (-2147483648 ≤ i.imm ∧ i.imm < 2147483648) ∧ (0 ≤ i.rd ∧ i.rd ≤ 31) ∧ (0 ≤ i.rs1 ∧ i.rs1 ≤ 31) ∧ (0 ≤ i.rs2 ∧ i.rs2 ≤ 31) ∧ (0 ≤ i.fn ∧ i.fn ≤ 28) ∧ (0 ≤ i.sz ∧ i.sz ≤ 8)
set_option maxHeartbeats 4000000 in
theorem rEncode_out (i : Ins) (hr : ¬ InR i) (w : World) :
    Calls Tryz.prog 66 #[.agg i.cells] w fun e w' => e = .returned (.tuple #[.int .u32 0, .bool false]) ∧ Below w.heap.size w w' := by
  have TI := Lib.hid in_any
  have T0 : Hid True := trivial
  have T1 : Hid True := trivial
  obtain ⟨k, fn, rd, rs1, rs2, imm, sz, sg⟩ := i
  simp only [Ins.cells]
  have hf : (decide (imm < -2147483648) = true) ∨ (decide (imm < -2147483648) = false ∧ decide (2147483648 ≤ imm) = true) ∨ (decide (imm < -2147483648) = false ∧ decide (2147483648 ≤ imm) = false ∧ (decide (0 ≤ rd) && decide (rd ≤ 31)) = false) ∨ (decide (imm < -2147483648) = false ∧ decide (2147483648 ≤ imm) = false ∧ (decide (0 ≤ rd) && decide (rd ≤ 31)) = true ∧ (decide (0 ≤ rs1) && decide (rs1 ≤ 31)) = false) ∨ (decide (imm < -2147483648) = false ∧ decide (2147483648 ≤ imm) = false ∧ (decide (0 ≤ rd) && decide (rd ≤ 31)) = true ∧ (decide (0 ≤ rs1) && decide (rs1 ≤ 31)) = true ∧ (decide (0 ≤ rs2) && decide (rs2 ≤ 31)) = false) ∨ (decide (imm < -2147483648) = false ∧ decide (2147483648 ≤ imm) = false ∧ (decide (0 ≤ rd) && decide (rd ≤ 31)) = true ∧ (decide (0 ≤ rs1) && decide (rs1 ≤ 31)) = true ∧ (decide (0 ≤ rs2) && decide (rs2 ≤ 31)) = true ∧ (decide (0 ≤ fn) && decide (fn ≤ 28)) = false) ∨ (decide (imm < -2147483648) = false ∧ decide (2147483648 ≤ imm) = false ∧ (decide (0 ≤ rd) && decide (rd ≤ 31)) = true ∧ (decide (0 ≤ rs1) && decide (rs1 ≤ 31)) = true ∧ (decide (0 ≤ rs2) && decide (rs2 ≤ 31)) = true ∧ (decide (0 ≤ fn) && decide (fn ≤ 28)) = true ∧ (decide (0 ≤ sz) && decide (sz ≤ 8)) = false) := by
    simp only [InR] at hr
    simp only [Bool.and_eq_true, Bool.and_eq_false_iff, decide_eq_true_eq, decide_eq_false_iff_not]
    omega
  clear hr
  rcases hf with f0 | ⟨f0, f1⟩ | ⟨f0, f1, f2⟩ | ⟨f0, f1, f2, f3⟩ | ⟨f0, f1, f2, f3, f4⟩ | ⟨f0, f1, f2, f3, f4, f5⟩ | ⟨f0, f1, f2, f3, f4, f5, f6⟩
  all_goals (
    go_enter Tryz.func66, Tryz.ntmps66
    go_wp2_with (first
 | (go_at_call 98; (with_reducible refine (TI.out _ _ _ _).mono ?_); rintro e w' ⟨rfl, hb⟩; replace ST := Lib.hid (ST.out.call hb); clear hb)
 | ((with_reducible refine Step.gate_box (t := 85) rfl ?_); refine Step.fresh (cs := #[.int .i64 k, .int .i64 fn, .int .i64 rd, .int .i64 rs1, .int .i64 rs2, .int .i64 imm, .int .i64 sz, .bool sg]) (T := 85) rfl ?hr ?_; (case hr => go_simp); intro g1 w1 b hg hb; have ST := Lib.hid (S1.made b hg hb); clear b hg hb)
 | (refine loadW1 ST.out.one rfl rfl rfl pl_int rfl ?_))
    go_ret2
    exact ⟨rfl, ST.out.below⟩)
end Go.Proofs.YtchpnbckgofiaaaGreat.Enc
end
section
namespace Go.Proofs.YtchpnbckgofiaaaGreat.Enc
open Go Go.RowKit
set_option linter.unusedVariables false
set_option linter.unusedSimpArgs false
set_option maxRecDepth 100000
theorem pk_rng (L : List Int) (m : Int) (hm : 0 ≤ m) (h : ∀ v ∈ L, 0 ≤ v ∧ v ≤ m) (x : Int) : 0 ≤ pk L x ∧ pk L x ≤ m := by
  unfold pk
  split
  · exact ⟨Int.le_refl _, hm⟩
  · by_cases hk : x.toNat < L.length
    · have : L.getD x.toNat 0 = L[x.toNat] := by simp [List.getD, List.getElem?_eq_getElem hk]
      rw [this]; exact h _ (List.getElem_mem hk)
    · have : L.getD x.toNat 0 = 0 := by simp [List.getD, List.getElem?_eq_none (show L.length ≤ x.toNat by omega)]
      rw [this]; exact ⟨Int.le_refl _, hm⟩
theorem regF_rng (wide : Bool) (s x : Int) : 0 ≤ regF wide s x ∧ regF wide s x ≤ 28 := by
  unfold regF
  repeat' split
  all_goals first
    | exact pk_rng _ 28 (by decide) (by decide) x
    | exact ⟨by decide, by decide⟩
theorem im13_fn (hi x sh m : Int) : 0 ≤ (im13 hi x sh m).1 ∧ (im13 hi x sh m).1 ≤ 28 := by
  unfold im13
  repeat' split
  all_goals first
    | exact pk_rng _ 28 (by decide) (by decide) x
    | (dsimp only; decide)
theorem im1b_fn (s x sh m : Int) : 0 ≤ (im1b s x sh m).1 ∧ (im1b s x sh m).1 ≤ 28 := by
  unfold im1b
  repeat' split
  all_goals (dsimp only; decide)
theorem atF_fn (f r : Int) : 0 ≤ (atF f r).2.1 ∧ (atF f r).2.1 ≤ 28 := by
  unfold atF
  repeat' split
  all_goals first
    | exact pk_rng _ 28 (by decide) (by decide) _
    | (dsimp only; decide)
theorem z28 : (0 : Int) ≤ 0 ∧ (0 : Int) ≤ 28 := by decide
theorem dec_fn {a : Int} {i : Ins} (h : dec a = some i) : 0 ≤ i.fn ∧ i.fn ≤ 28 := by
  unfold dec decOp at h
  rcases ite_some h with ⟨c, h⟩ | ⟨_, h⟩
  · injection h with h; subst h; exact z28
  rcases ite_some h with ⟨c, h⟩ | ⟨_, h⟩
  · injection h with h; subst h; exact z28
  rcases ite_some h with ⟨c, h⟩ | ⟨_, h⟩
  · injection h with h; subst h; exact z28
  rcases ite_some h with ⟨_, h⟩ | ⟨_, h⟩
  · rcases ite_some h with ⟨c, h⟩ | ⟨_, h⟩
    · injection h with h; subst h; exact z28
    · cases h
  rcases ite_some h with ⟨_, h⟩ | ⟨_, h⟩
  · rcases ite_some h with ⟨_, h⟩ | ⟨c, h⟩
    · cases h
    · injection h with h; subst h; exact pk_rng brL 28 (by decide) (by decide) _
  rcases ite_some h with ⟨_, h⟩ | ⟨_, h⟩
  · rcases ite_some h with ⟨c, h⟩ | ⟨_, h⟩
    · injection h with h; subst h; exact z28
    · cases h
  rcases ite_some h with ⟨_, h⟩ | ⟨_, h⟩
  · rcases ite_some h with ⟨c, h⟩ | ⟨_, h⟩
    · injection h with h; subst h; exact z28
    · cases h
  rcases ite_some h with ⟨_, h⟩ | ⟨_, h⟩
  · rcases ite_some h with ⟨c, h⟩ | ⟨_, h⟩
    · injection h with h; subst h; exact im13_fn _ _ _ _
    · cases h
  rcases ite_some h with ⟨_, h⟩ | ⟨_, h⟩
  · rcases ite_some h with ⟨c, h⟩ | ⟨_, h⟩
    · injection h with h; subst h; exact im1b_fn _ _ _ _
    · cases h
  rcases ite_some h with ⟨_, h⟩ | ⟨_, h⟩
  · rcases ite_some h with ⟨_, h⟩ | ⟨c, h⟩
    · cases h
    · injection h with h; subst h; exact regF_rng true (fd a 31 25) (fd a 14 12)
  rcases ite_some h with ⟨_, h⟩ | ⟨_, h⟩
  · rcases ite_some h with ⟨_, h⟩ | ⟨c, h⟩
    · cases h
    · injection h with h; subst h; exact regF_rng false (fd a 31 25) (fd a 14 12)
  rcases ite_some h with ⟨_, h⟩ | ⟨_, h⟩
  · rcases ite_some h with ⟨c, h⟩ | ⟨_, h⟩
    · injection h with h; subst h; exact z28
    · cases h
  rcases ite_some h with ⟨_, h⟩ | ⟨_, h⟩
  · unfold sysD at h
    rcases ite_some h with ⟨c, h⟩ | ⟨_, h⟩
    · injection h with h; subst h; exact z28
    rcases ite_some h with ⟨c, h⟩ | ⟨_, h⟩
    · injection h with h; subst h; exact z28
    rcases ite_some h with ⟨c, h⟩ | ⟨_, h⟩
    · injection h with h; subst h; exact z28
    rcases ite_some h with ⟨c, h⟩ | ⟨_, h⟩
    · injection h with h; subst h; exact z28
    rcases ite_some h with ⟨_, h⟩ | ⟨_, h⟩
    · rcases ite_some h with ⟨c, h⟩ | ⟨_, h⟩
      · injection h with h; subst h; exact z28
      · cases h
    rcases ite_some h with ⟨_, h⟩ | ⟨_, h⟩
    · cases h
    · injection h with h; subst h; exact pk_rng csL 28 (by decide) (by decide) _
  rcases ite_some h with ⟨_, h⟩ | ⟨_, h⟩
  · unfold atD at h
    rcases ite_some h with ⟨_, h⟩ | ⟨_, h⟩
    · rcases ite_some h with ⟨c, h⟩ | ⟨_, h⟩
      · injection h with h; subst h; exact atF_fn _ _
      · cases h
    · cases h
  · cases h
theorem dec_inR {a : Int} {i : Ins} (h : dec a = some i) : InR i := by
  have f := dec_fits h
  have g := dec_fn h
  have i1 : -2147483648 ≤ i.imm ∧ i.imm < 2147483648 := by
    by_cases h1 : i.k = 1
    · exact (f.u (.inl h1)).2
    by_cases h2 : i.k = 2
    · exact (f.u (.inr h2)).2
    by_cases h3 : i.k = 3
    · have := (f.j h3).2; omega
    by_cases h5 : i.k = 5
    · have := (f.b h5).2; omega
    have := f.o h1 h2 h3 h5; omega
  have := f.rd
  have := f.rs1
  have := f.rs2
  refine ⟨i1, by omega, by omega, by omega, g, ?_⟩
  rcases f.sz with h | h | h | h | h <;> omega
def wordP (i : Ins) : Int := wordF i.k i.fn i.rd i.rs1 i.rs2 i.imm i.sz i.sg
theorem p0 (n l : Nat) : pt 0 n l = 0 := pt0 n l
theorem reg1 (rd : Int) : regW rd 0 0 = pt rd 5 7 := by
  unfold regW
  rw [p0, p0, bor_zero (pt_bd rd 5 7 (by decide)), bor_zero (pt_bd rd 5 7 (by decide))]
theorem reg2 (rd rs1 : Int) : regW rd rs1 0 = bor (pt rd 5 7) (pt rs1 5 15) := by
  unfold regW
  rw [p0, bor_zero (bor_w _ _).out]
theorem reg3 (rs1 rs2 : Int) : regW 0 rs1 rs2 = bor (pt rs1 5 15) (pt rs2 5 20) := by
  unfold regW
  rw [p0, bor_comm 0, bor_zero (pt_bd rs1 5 15 (by decide))]
theorem sz_ld {s : Int} (h : s = 1 ∨ s = 2 ∨ s = 4 ∨ s = 8) : pk szL s * 4096 = pt (ix ld4 s) 3 12 ∧ (pk szL s + 4) * 4096 = pt (ix ld4 s + 4) 3 12 := by
  rcases h with h | h | h | h <;> (subst h; exact ⟨rfl, rfl⟩)
theorem sz_at {s : Int} (h : s = 4 ∨ s = 8) : pk szL s * 4096 = pt (ix at2 s + 2) 3 12 := by
  rcases h with h | h <;> (subst h; rfl)
theorem br_w : ∀ x : Fin 7, x.val ≠ 0 → pk bwL (x.val : Int) = ix brI (x.val : Int) := by decide
theorem am_w : ∀ x : Fin 10, x.val ≠ 0 → pk amW (x.val : Int) = ix amL (x.val : Int) := by decide
theorem rw_al : ∀ x : Fin 29, x.val ≠ 0 → pk rwL (x.val : Int) = bor (if 19 ≤ (x.val : Int) then 59 else 51) (al (x.val : Int)) := by decide
theorem and_reg {rd rs1 : Int} (h1 : 0 ≤ rd ∧ rd < 32) (h2 : 0 ≤ rs1 ∧ rs1 < 32) : bits .and .u32 (regW rd rs1 0) 1048575 = bor (pt rd 5 7) (pt rs1 5 15) := by
  rw [reg2]
  have e1 : pt rd 5 7 = rd * 128 := pt_of 5 7 32 128 rd rfl rfl (by omega)
  have e2 : pt rs1 5 15 = rs1 * 32768 := pt_of 5 15 32 32768 rs1 rfl rfl (by omega)
  rw [e1, e2]
  have zs : bor (rd * 128) (rs1 * 32768) = rd * 128 + rs1 * 32768 := bor_step 15 32768 rfl ⟨by omega, by omega⟩ (by omega) (by omega) (by decide)
  have h := u32_mask (rd * 128 + rs1 * 32768) 20 (by decide) (by omega)
  rw [zs]
  exact h.trans (by show _ % (1048576 : Int) = _; omega)
theorem pt_12 {v : Int} (n : Nat) (N : Int) (hN : N = (2 ^ n : Nat)) (hv : 0 ≤ v ∧ v < N) (h12 : N ≤ 4096) : pt v 12 20 = pt v n 20 := by
  subst hN
  have e : v % ((2 ^ n : Nat) : Int) = v := Int.emod_eq_of_lt hv.1 hv.2
  have e2 : v % ((2 ^ 12 : Nat) : Int) = v := Int.emod_eq_of_lt hv.1 (by show v < 4096; omega)
  unfold pt
  rw [e, e2]
theorem fin_of {x : Int} {n : Nat} (h : 0 ≤ x ∧ x < n) : ∃ y : Fin n, (y.val : Int) = x := ⟨⟨x.toNat, by omega⟩, by show ((x.toNat : Nat) : Int) = x; omega⟩
theorem word_alu {f rd rs1 rs2 : Int} (hf : 0 ≤ f ∧ f ≤ 28) (c : ¬ f = 0) : wordP ⟨8, f, rd, rs1, rs2, 0, 0, false⟩ = encP ⟨8, f, rd, rs1, rs2, 0, 0, false⟩ := by
  obtain ⟨y, hy⟩ := fin_of (n := 29) (x := f) (by omega)
  have e := rw_al y (by intro h0; rw [h0] at hy; exact c hy.symm)
  rw [hy] at e
  show (if 19 ≤ f then bor (bor 59 (al f)) (regW rd rs1 rs2) else bor (bor 51 (al f)) (regW rd rs1 rs2)) = bor (pk rwL f) (regW rd rs1 rs2)
  rw [e]
  split <;> rfl
theorem word_enc {a : Int} {i : Ins} (ha : W32 a) (h : dec a = some i) : wordP i = encP i := by
  have b1 := fd_lit (a := a) (h := 11) (l := 7) (n := 32) rfl
  have b2 := fd_lit (a := a) (h := 19) (l := 15) (n := 32) rfl
  have b3 := fd_lit (a := a) (h := 24) (l := 20) (n := 32) rfl
  have b4 := fd_lit (a := a) (h := 14) (l := 12) (n := 8) rfl
  have b6 := fd_lit (a := a) (h := 25) (l := 20) (n := 64) rfl
  have hf := dec_fn h
  unfold dec decOp at h
  rcases ite_some h with ⟨c, h⟩ | ⟨_, h⟩
  · injection h with h; subst h
    show bor (bor 55 (pt (fd a 11 7) 5 7)) _ = bor (bor 55 (regW (fd a 11 7) 0 0)) _
    rw [reg1]
  rcases ite_some h with ⟨c, h⟩ | ⟨_, h⟩
  · injection h with h; subst h
    show bor (bor 23 (pt (fd a 11 7) 5 7)) _ = bor (bor 23 (regW (fd a 11 7) 0 0)) _
    rw [reg1]
  rcases ite_some h with ⟨c, h⟩ | ⟨_, h⟩
  · injection h with h; subst h
    show bor (bor 111 (pt (fd a 11 7) 5 7)) (bor (bor (bor _ _) _) _) = bor (bor (bor (bor (bor 111 (regW (fd a 11 7) 0 0)) _) _) _) _
    rw [reg1]
    ac_rfl
  rcases ite_some h with ⟨_, h⟩ | ⟨_, h⟩
  · rcases ite_some h with ⟨c, h⟩ | ⟨_, h⟩
    · injection h with h; subst h
      show bor (bor (bor 103 (pt (fd a 11 7) 5 7)) (pt (fd a 19 15) 5 15)) _ = bor (bor 103 (regW (fd a 11 7) (fd a 19 15) 0)) _
      rw [reg2]
      ac_rfl
    · cases h
  rcases ite_some h with ⟨_, h⟩ | ⟨_, h⟩
  · rcases ite_some h with ⟨_, h⟩ | ⟨c, h⟩
    · cases h
    · injection h with h; subst h
      obtain ⟨y, hy⟩ := fin_of (n := 7) (x := pk brL (fd a 14 12)) (by have := pk_rng brL 6 (by decide) (by decide) (fd a 14 12); omega)
      have e := br_w y (by intro h0; rw [h0] at hy; exact c hy.symm)
      rw [hy] at e
      show bor (bor (bor (bor 99 (pt (pk bwL (pk brL (fd a 14 12))) 3 12)) (pt (fd a 19 15) 5 15)) (pt (fd a 24 20) 5 20)) (bor (bor (bor _ _) _) _) = bor (bor (bor (bor (bor (bor 99 (regW 0 (fd a 19 15) (fd a 24 20))) (pt (ix brI (pk brL (fd a 14 12))) 3 12)) _) _) _) _
      rw [reg3, e]
      ac_rfl
  rcases ite_some h with ⟨_, h⟩ | ⟨_, h⟩
  · rcases ite_some h with ⟨c, h⟩ | ⟨_, h⟩
    · injection h with h; subst h
      have hs : pk ldL (fd a 14 12) = 1 ∨ pk ldL (fd a 14 12) = 2 ∨ pk ldL (fd a 14 12) = 4 ∨ pk ldL (fd a 14 12) = 8 := by
        generalize fd a 14 12 = x at *
        obtain h | h | h | h | h | h | h : x = 0 ∨ x = 1 ∨ x = 2 ∨ x = 3 ∨ x = 4 ∨ x = 5 ∨ x = 6 := by omega
        all_goals (subst h; decide)
      have e := sz_ld hs
      by_cases hx : fd a 14 12 < 4
      · rw [decide_eq_true hx]
        show bor (bor (bor (bor 3 (pk szL (pk ldL (fd a 14 12)) * 4096)) (pt (fd a 11 7) 5 7)) (pt (fd a 19 15) 5 15)) _ = bor (bor (bor 3 (regW (fd a 11 7) (fd a 19 15) 0)) (pt (ix ld4 (pk ldL (fd a 14 12))) 3 12)) _
        rw [reg2, e.1]
        ac_rfl
      · rw [decide_eq_false hx]
        show bor (bor (bor (bor 3 ((pk szL (pk ldL (fd a 14 12)) + 4) * 4096)) (pt (fd a 11 7) 5 7)) (pt (fd a 19 15) 5 15)) _ = bor (bor (bor 3 (regW (fd a 11 7) (fd a 19 15) 0)) (pt (ix ld4 (pk ldL (fd a 14 12)) + 4) 3 12)) _
        rw [reg2, e.2]
        ac_rfl
    · cases h
  rcases ite_some h with ⟨_, h⟩ | ⟨_, h⟩
  · rcases ite_some h with ⟨c, h⟩ | ⟨_, h⟩
    · injection h with h; subst h
      have hs : pk stL (fd a 14 12) = 1 ∨ pk stL (fd a 14 12) = 2 ∨ pk stL (fd a 14 12) = 4 ∨ pk stL (fd a 14 12) = 8 := by
        generalize fd a 14 12 = x at *
        obtain h | h | h | h : x = 0 ∨ x = 1 ∨ x = 2 ∨ x = 3 := by omega
        all_goals (subst h; decide)
      have e := sz_ld hs
      show bor (bor (bor (bor (bor 35 (pk szL (pk stL (fd a 14 12)) * 4096)) (pt (fd a 19 15) 5 15)) (pt (fd a 24 20) 5 20)) _) _ = bor (bor (bor (bor 35 (regW 0 (fd a 19 15) (fd a 24 20))) (pt (ix ld4 (pk stL (fd a 14 12))) 3 12)) _) _
      rw [reg3, e.1]
      ac_rfl
    · cases h
  rcases ite_some h with ⟨_, h⟩ | ⟨_, h⟩
  · rcases ite_some h with ⟨c2, h⟩ | ⟨_, h⟩
    · injection h with h; subst h
      clear hf
      unfold im13 at c2 ⊢
      by_cases h1 : fd a 14 12 = 1
      · simp only [if_pos h1] at c2 ⊢
        by_cases h0 : fd a 31 26 = 0
        · simp only [if_pos h0]
          show bor (bor (bor (bor 19 (al 3)) (pt (fd a 11 7) 5 7)) (pt (fd a 19 15) 5 15)) (pt (fd a 25 20) 12 20) = bor (bor 4115 (pt (fd a 25 20) 6 20)) (regW (fd a 11 7) (fd a 19 15) 0)
          rw [reg2, pt_12 6 64 rfl b6 (by decide), show bor 19 (al 3) = 4115 from rfl]
          ac_rfl
        · simp only [if_neg h0] at c2
          cases c2
      simp only [if_neg h1] at c2 ⊢
      by_cases h5 : fd a 14 12 = 5
      · simp only [if_pos h5] at c2 ⊢
        by_cases h0 : fd a 31 26 = 0
        · simp only [if_pos h0]
          show bor (bor (bor (bor 19 (al 7)) (pt (fd a 11 7) 5 7)) (pt (fd a 19 15) 5 15)) (pt (fd a 25 20) 12 20) = bor (bor 20499 (pt (fd a 25 20) 6 20)) (regW (fd a 11 7) (fd a 19 15) 0)
          rw [reg2, pt_12 6 64 rfl b6 (by decide), show bor 19 (al 7) = 20499 from rfl]
          ac_rfl
        simp only [if_neg h0] at c2 ⊢
        by_cases h6 : fd a 31 26 = 16
        · simp only [if_pos h6]
          show bor (bor (bor (bor 19 (al 8)) (pt (fd a 11 7) 5 7)) (pt (fd a 19 15) 5 15)) (pt (fd a 25 20) 12 20) = bor (bor 1073762323 (pt (fd a 25 20) 6 20)) (regW (fd a 11 7) (fd a 19 15) 0)
          rw [reg2, pt_12 6 64 rfl b6 (by decide), show bor 19 (al 8) = 1073762323 from rfl]
          ac_rfl
        · simp only [if_neg h6] at c2
          cases c2
      simp only [if_neg h5]
      have hx : pk imL (fd a 14 12) = 1 ∨ pk imL (fd a 14 12) = 4 ∨ pk imL (fd a 14 12) = 5 ∨ pk imL (fd a 14 12) = 6 ∨ pk imL (fd a 14 12) = 9 ∨ pk imL (fd a 14 12) = 10 := by
        generalize fd a 14 12 = x at *
        obtain h | h | h | h | h | h : x = 0 ∨ x = 2 ∨ x = 3 ∨ x = 4 ∨ x = 6 ∨ x = 7 := by omega
        all_goals (subst h; decide)
      show wordP ⟨9, pk imL (fd a 14 12), _, _, 0, _, 0, false⟩ = encP ⟨9, pk imL (fd a 14 12), _, _, 0, _, 0, false⟩
      generalize pk imL (fd a 14 12) = f at *
      rcases hx with h | h | h | h | h | h
      all_goals
        subst h
        show bor (bor (bor (bor 19 (pt _ 3 12)) (pt (fd a 11 7) 5 7)) (pt (fd a 19 15) 5 15)) (pt (immI a) 12 20) = bor (bor (bor 19 (pt (immI a) 12 20)) (pt _ 3 12)) (regW (fd a 11 7) (fd a 19 15) 0)
        rw [reg2]
        exact (by ac_rfl : bor (bor (bor (bor 19 (pt _ 3 12)) (pt (fd a 11 7) 5 7)) (pt (fd a 19 15) 5 15)) (pt (immI a) 12 20) = bor (bor (bor 19 (pt (immI a) 12 20)) (pt _ 3 12)) (bor (pt (fd a 11 7) 5 7) (pt (fd a 19 15) 5 15)))
    · cases h
  rcases ite_some h with ⟨_, h⟩ | ⟨_, h⟩
  · rcases ite_some h with ⟨c2, h⟩ | ⟨_, h⟩
    · injection h with h; subst h
      clear hf
      unfold im1b at c2 ⊢
      by_cases h0 : fd a 14 12 = 0
      · simp only [if_pos h0]
        show bor (bor (bor (bor 27 (al 19)) (pt (fd a 11 7) 5 7)) (pt (fd a 19 15) 5 15)) (pt (immI a) 12 20) = bor (bor 27 (pt (immI a) 12 20)) (regW (fd a 11 7) (fd a 19 15) 0)
        rw [reg2, show bor 27 (al 19) = 27 from rfl]
        ac_rfl
      simp only [if_neg h0] at c2 ⊢
      by_cases h1 : fd a 14 12 = 1
      · simp only [if_pos h1] at c2 ⊢
        by_cases hs : fd a 31 25 = 0
        · simp only [if_pos hs]
          show bor (bor (bor (bor 27 (al 21)) (pt (fd a 11 7) 5 7)) (pt (fd a 19 15) 5 15)) (pt (fd a 24 20) 12 20) = bor (bor 4123 (pt (fd a 24 20) 5 20)) (regW (fd a 11 7) (fd a 19 15) 0)
          rw [reg2, pt_12 5 32 rfl b3 (by decide), show bor 27 (al 21) = 4123 from rfl]
          ac_rfl
        · simp only [if_neg hs] at c2
          cases c2
      simp only [if_neg h1] at c2 ⊢
      by_cases h5 : fd a 14 12 = 5
      · simp only [if_pos h5] at c2 ⊢
        by_cases hs : fd a 31 25 = 0
        · simp only [if_pos hs]
          show bor (bor (bor (bor 27 (al 22)) (pt (fd a 11 7) 5 7)) (pt (fd a 19 15) 5 15)) (pt (fd a 24 20) 12 20) = bor (bor 20507 (pt (fd a 24 20) 5 20)) (regW (fd a 11 7) (fd a 19 15) 0)
          rw [reg2, pt_12 5 32 rfl b3 (by decide), show bor 27 (al 22) = 20507 from rfl]
          ac_rfl
        simp only [if_neg hs] at c2 ⊢
        by_cases h6 : fd a 31 25 = 32
        · simp only [if_pos h6]
          show bor (bor (bor (bor 27 (al 23)) (pt (fd a 11 7) 5 7)) (pt (fd a 19 15) 5 15)) (pt (fd a 24 20) 12 20) = bor (bor 1073762331 (pt (fd a 24 20) 5 20)) (regW (fd a 11 7) (fd a 19 15) 0)
          rw [reg2, pt_12 5 32 rfl b3 (by decide), show bor 27 (al 23) = 1073762331 from rfl]
          ac_rfl
        · simp only [if_neg h6] at c2
          cases c2
      · simp only [if_neg h5] at c2
        cases c2
    · cases h
  rcases ite_some h with ⟨_, h⟩ | ⟨_, h⟩
  · rcases ite_some h with ⟨_, h⟩ | ⟨c, h⟩
    · cases h
    · injection h with h; subst h
      exact word_alu hf c
  rcases ite_some h with ⟨_, h⟩ | ⟨_, h⟩
  · rcases ite_some h with ⟨_, h⟩ | ⟨c, h⟩
    · cases h
    · injection h with h; subst h
      exact word_alu hf c
  rcases ite_some h with ⟨_, h⟩ | ⟨_, h⟩
  · rcases ite_some h with ⟨c, h⟩ | ⟨_, h⟩
    · injection h with h; subst h; rfl
    · cases h
  rcases ite_some h with ⟨_, h⟩ | ⟨_, h⟩
  · unfold sysD at h
    rcases ite_some h with ⟨c, h⟩ | ⟨_, h⟩
    · injection h with h; subst h; rfl
    rcases ite_some h with ⟨c, h⟩ | ⟨_, h⟩
    · injection h with h; subst h; rfl
    rcases ite_some h with ⟨c, h⟩ | ⟨_, h⟩
    · injection h with h; subst h; rfl
    rcases ite_some h with ⟨c, h⟩ | ⟨_, h⟩
    · injection h with h; subst h; rfl
    rcases ite_some h with ⟨_, h⟩ | ⟨_, h⟩
    · rcases ite_some h with ⟨c, h⟩ | ⟨_, h⟩
      · injection h with h; subst h
        show bor (bor 301990003 (pt (fd a 19 15) 5 15)) (pt (fd a 24 20) 5 20) = bor 301990003 (regW 0 (fd a 19 15) (fd a 24 20))
        rw [reg3]
        ac_rfl
      · cases h
    rcases ite_some h with ⟨_, h⟩ | ⟨_, h⟩
    · cases h
    · injection h with h; subst h
      by_cases hx : fd a 14 12 < 4
      · rw [if_pos hx]
        show bor (bor (bor (bor 115 (pt _ 2 12)) (pt (fd a 11 7) 5 7)) (pt (fd a 19 15) 5 15)) _ = bor (bor (bor 115 (bits .and .u32 (regW (fd a 11 7) (fd a 19 15) 0) 1048575)) _) _
        rw [and_reg b1 b2]
        ac_rfl
      · rw [if_neg hx]
        show bor (bor (bor (bor 16499 (pt _ 2 12)) (pt (fd a 11 7) 5 7)) (pt (fd a 19 15) 5 15)) _ = bor (bor (bor 16499 (bits .and .u32 (regW (fd a 11 7) (fd a 19 15) 0) 1048575)) _) _
        rw [and_reg b1 b2]
        ac_rfl
  rcases ite_some h with ⟨_, h⟩ | ⟨_, h⟩
  · unfold atD at h
    rcases ite_some h with ⟨hx, h⟩ | ⟨_, h⟩
    · rcases ite_some h with ⟨c, h⟩ | ⟨_, h⟩
      · injection h with h; subst h
        obtain ⟨z, hz⟩ : ∃ z : Int, (if fd a 14 12 = 2 then 4 else 8) = z := ⟨_, rfl⟩
        have hz4 : z = 4 ∨ z = 8 := by
          rw [← hz]; split
          · exact .inl rfl
          · exact .inr rfl
        rw [hz]
        have e := sz_at hz4
        clear hf hx hz
        unfold atF at c ⊢
        by_cases h2 : fd a 31 27 = 2
        · simp only [if_pos h2] at c ⊢
          have hr : fd a 24 20 = 0 := by simpa using c
          rw [hr]
          show bor (bor (bor 268435503 (pk szL z * 4096)) (pt (fd a 11 7) 5 7)) (pt (fd a 19 15) 5 15) = bor (bor 268435503 (regW (fd a 11 7) (fd a 19 15) 0)) (pt (ix at2 z + 2) 3 12)
          rw [reg2, e]
          ac_rfl
        simp only [if_neg h2] at c ⊢
        by_cases h3 : fd a 31 27 = 3
        · simp only [if_pos h3]
          show bor (bor 402653231 (pk szL z * 4096)) (regW (fd a 11 7) (fd a 19 15) (fd a 24 20)) = bor (bor 402653231 (regW (fd a 11 7) (fd a 19 15) (fd a 24 20))) (pt (ix at2 z + 2) 3 12)
          rw [e]
          ac_rfl
        simp only [if_neg h3] at c ⊢
        have key : ∀ f : Int, (1 ≤ f ∧ f < 10) → wordP ⟨17, f, fd a 11 7, fd a 19 15, fd a 24 20, 0, z, false⟩ = encP ⟨17, f, fd a 11 7, fd a 19 15, fd a 24 20, 0, z, false⟩ := by
          intro f hf
          obtain ⟨y, hy⟩ := fin_of (n := 10) (x := f) (by omega)
          have e2 := am_w y (by intro h0; rw [h0] at hy; omega)
          rw [hy] at e2
          show bor (bor (bor 47 (pt (pk amW f) 5 27)) (pk szL z * 4096)) (regW (fd a 11 7) (fd a 19 15) (fd a 24 20)) = bor (bor (bor 47 (regW (fd a 11 7) (fd a 19 15) (fd a 24 20))) (pt (ix at2 z + 2) 3 12)) (pt (ix amL f) 5 27)
          rw [e, e2]
          ac_rfl
        by_cases h1 : fd a 31 27 = 1
        · simp only [if_pos h1]
          exact key 1 (by decide)
        simp only [if_neg h1] at c ⊢
        by_cases h4 : fd a 31 27 % 4 = 0
        · simp only [if_pos h4]
          refine key _ ?_
          have b5 := fd_lit (a := a) (h := 31) (l := 27) (n := 32) rfl
          generalize fd a 31 27 = f at *
          obtain h | h | h | h | h | h | h | h : f = 0 ∨ f = 4 ∨ f = 8 ∨ f = 12 ∨ f = 16 ∨ f = 20 ∨ f = 24 ∨ f = 28 := by omega
          all_goals (subst h; decide)
        · simp only [if_neg h4] at c
          cases c
      · cases h
    · cases h
  · cases h
end Go.Proofs.YtchpnbckgofiaaaGreat.Enc
end
section
namespace Go.Proofs.YtchpnbckgofiaaaGreat.Enc
open Go Go.RowKit Go.Proofs.YtchpnbckgofiaaaGreat.Step
set_option linter.unusedVariables false
set_option linter.unusedSimpArgs false
set_option maxRecDepth 100000
/-- Sixteen bits. -/
structure H16 (c : Int) : Prop where mk :: (out : 0 ≤ c ∧ c < 65536)
theorem half_at (c z1 z2 : Int) (h l : Nat) (hc : H16 c) (hz1 : z1 = h) (hz2 : z2 = l) (hh : h ≤ 15) (hl : l ≤ h) (w : World) :
    Calls Tryz.prog 75 #[.int .u16 c, .int .i64 z1, .int .i64 z2] w fun e w' => e = .returned (.int .i64 (fd c h l)) ∧ ∃ k, w' = w.drewN k := by
  subst hz1; subst hz2
  have hv : bits .and .i64 (wrap64 (c / 2 ^ l)) (wrap64 (wrap64 (2 ^ (h - l + 1)) - 1)) = fd c h l := by
    have := hc.out
    rw [mask_v (c / 2 ^ l) (h - l + 1) ⟨Int.ediv_nonneg hc.out.1 (Int.le_of_lt (Int.pow_pos (by decide))), Int.lt_of_le_of_lt (Int.ediv_le_self _ hc.out.1) (by omega)⟩ (by omega), pow_nat]; rfl
  go_enter Tryz.func75, Tryz.ntmps75
  go_wp2
  go_quiet (fail)
  go_wp2
  go_ret
  exact ⟨rfl, _, rfl⟩
def cN (c : Int) : Int := fd c 12 12 * 32 + fd c 6 2
def cLow (c : Int) : Int := 8 + fd c 4 2
def cHigh (c : Int) : Int := 8 + fd c 9 7
def cW4 (c : Int) : Int := fd c 5 5 * 64 + fd c 12 10 * 8 + fd c 6 6 * 4
def cW8 (c : Int) : Int := fd c 6 5 * 64 + fd c 12 10 * 8
def cA4 (c : Int) : Int := fd c 10 7 * 64 + fd c 12 11 * 16 + fd c 5 5 * 8 + fd c 6 6 * 4
def cBr (c : Int) : Int := fd c 12 12 * 256 + fd c 6 5 * 64 + fd c 2 2 * 32 + fd c 11 10 * 8 + fd c 4 3 * 2
def cSp (c : Int) : Int := fd c 12 12 * 512 + fd c 4 3 * 128 + fd c 5 5 * 64 + fd c 2 2 * 32 + fd c 6 6 * 16
def cJ (c : Int) : Int := fd c 12 12 * 2048 + fd c 8 8 * 1024 + fd c 10 9 * 256 + fd c 6 6 * 128 + fd c 7 7 * 64 + fd c 2 2 * 32 + fd c 11 11 * 16 + fd c 5 3 * 2
def cL4 (c : Int) : Int := fd c 3 2 * 64 + fd c 12 12 * 32 + fd c 6 4 * 4
def cL8 (c : Int) : Int := fd c 4 2 * 64 + fd c 12 12 * 32 + fd c 6 5 * 8
def cS4 (c : Int) : Int := fd c 8 7 * 64 + fd c 12 9 * 4
def cS8 (c : Int) : Int := fd c 9 7 * 64 + fd c 12 10 * 8
def arL : List Int := [2, 6, 9, 10, 20, 19]
def ar (q r low n s k : Int) : Option Ins :=
  if q = 0 then some ⟨9, 7, r, r, 0, n, 0, false⟩ else if q = 1 then some ⟨9, 8, r, r, 0, n, 0, false⟩ else if q = 2 then some ⟨9, 10, r, r, 0, s, 0, false⟩
  else if pk arL k = 0 then none else some ⟨8, pk arL k, r, r, low, 0, 0, false⟩
def mv (link rd rs2 : Int) : Option Ins :=
  if rs2 = 0 then (if link = 1 ∧ rd = 0 then some ⟨12, 0, 0, 0, 0, 0, 0, false⟩ else if rd = 0 then none else some ⟨4, 0, link, rd, 0, 0, 0, false⟩)
  else some ⟨8, 1, rd, rd * link, rs2, 0, 0, false⟩
/-- The forms whose lowest bits are 0, 1, 2. -/
def e0 (f c : Int) : Option Ins :=
  if f = 0 then (if cA4 c = 0 then none else some ⟨9, 1, cLow c, 2, 0, cA4 c, 0, false⟩)
  else if f = 2 then some ⟨6, 0, cLow c, cHigh c, 0, cW4 c, 4, true⟩ else if f = 3 then some ⟨6, 0, cLow c, cHigh c, 0, cW8 c, 8, true⟩
  else if f = 6 then some ⟨7, 0, 0, cHigh c, cLow c, cW4 c, 4, false⟩ else if f = 7 then some ⟨7, 0, 0, cHigh c, cLow c, cW8 c, 8, false⟩ else none
def e1 (f c : Int) : Option Ins :=
  if f = 0 then some ⟨9, 1, fd c 11 7, fd c 11 7, 0, sx 6 (cN c), 0, false⟩
  else if f = 1 then (if fd c 11 7 = 0 then none else some ⟨9, 19, fd c 11 7, fd c 11 7, 0, sx 6 (cN c), 0, false⟩)
  else if f = 2 then some ⟨9, 1, fd c 11 7, 0, 0, sx 6 (cN c), 0, false⟩
  else if f = 3 then (if fd c 11 7 = 2 then (if sx 10 (cSp c) = 0 then none else some ⟨9, 1, 2, 2, 0, sx 10 (cSp c), 0, false⟩) else (if cN c = 0 then none else some ⟨1, 0, fd c 11 7, 0, 0, sx 6 (cN c) * 4096, 0, false⟩))
  else if f = 4 then ar (fd c 11 10) (cHigh c) (cLow c) (cN c) (sx 6 (cN c)) (fd c 12 12 * 4 + fd c 6 5)
  else if f = 5 then some ⟨3, 0, 0, 0, 0, sx 12 (cJ c), 0, false⟩
  else if f = 6 then some ⟨5, 1, 0, cHigh c, 0, sx 9 (cBr c), 0, false⟩ else some ⟨5, 2, 0, cHigh c, 0, sx 9 (cBr c), 0, false⟩
def e2 (f c : Int) : Option Ins :=
  if f = 0 then some ⟨9, 3, fd c 11 7, fd c 11 7, 0, cN c, 0, false⟩
  else if f = 2 then (if fd c 11 7 = 0 then none else some ⟨6, 0, fd c 11 7, 2, 0, cL4 c, 4, true⟩) else if f = 3 then (if fd c 11 7 = 0 then none else some ⟨6, 0, fd c 11 7, 2, 0, cL8 c, 8, true⟩)
  else if f = 4 then mv (fd c 12 12) (fd c 11 7) (fd c 6 2)
  else if f = 6 then some ⟨7, 0, 0, 2, fd c 6 2, cS4 c, 4, false⟩ else if f = 7 then some ⟨7, 0, 0, 2, fd c 6 2, cS8 c, 8, false⟩ else none
/-- What a compressed instruction stands for. -/
def expD (c : Int) : Option Ins := if c % 4 = 0 then e0 (fd c 15 13) c else if c % 4 = 1 then e1 (fd c 15 13) c else if c % 4 = 2 then e2 (fd c 15 13) c else none
theorem cN_bd (c : Int) : 0 ≤ cN c ∧ cN c < (2 ^ 6 : Nat) := by
  have b0 := fd_bd c 12 12
  have b1 := fd_bd c 6 2
  simp only [Nat.reduceSub, Nat.reduceAdd, Nat.reducePow] at b0 b1 ⊢
  unfold cN; omega
theorem hrd (c : Int) (hc : H16 c) (w : World) : Calls Tryz.prog 81 #[.int .u16 c] w fun e w' => e = .returned (.int .i64 (fd c 11 7)) ∧ Below w.heap.size w w' := by
  have T0 := Lib.hid (fun w => calls_below (half_at c 11 7 11 7 hc rfl rfl (by decide) (by decide) w))
  go_enter Tryz.func81, Tryz.ntmps81
  have HB := Lib.hid (Below.refl _ _ : Below w.heap.size w w)
  go_wp2_with (first
 | (go_at_call 75; (with_reducible refine (T0.out _).mono ?_); rintro e w' ⟨rfl, hb⟩; have hb_ := Lib.hid (below_below HB.out hb); clear HB hb; have HB := hb_))
  go_ret
  exact ⟨rfl, HB.out⟩
theorem hrs2 (c : Int) (hc : H16 c) (w : World) : Calls Tryz.prog 86 #[.int .u16 c] w fun e w' => e = .returned (.int .i64 (fd c 6 2)) ∧ Below w.heap.size w w' := by
  have T0 := Lib.hid (fun w => calls_below (half_at c 6 2 6 2 hc rfl rfl (by decide) (by decide) w))
  go_enter Tryz.func86, Tryz.ntmps86
  have HB := Lib.hid (Below.refl _ _ : Below w.heap.size w w)
  go_wp2_with (first
 | (go_at_call 75; (with_reducible refine (T0.out _).mono ?_); rintro e w' ⟨rfl, hb⟩; have hb_ := Lib.hid (below_below HB.out hb); clear HB hb; have HB := hb_))
  go_ret
  exact ⟨rfl, HB.out⟩
theorem hlow (c : Int) (hc : H16 c) (w : World) : Calls Tryz.prog 77 #[.int .u16 c] w fun e w' => e = .returned (.int .i64 (cLow c)) ∧ Below w.heap.size w w' := by
  have T0 := Lib.hid (fun w => calls_below (half_at c 4 2 4 2 hc rfl rfl (by decide) (by decide) w))
  have b0 := fd_lit (a := c) (h := 4) (l := 2) (n := 8) rfl
  unfold cLow
  generalize fd c 4 2 = x at *
  go_enter Tryz.func77, Tryz.ntmps77
  have HB := Lib.hid (Below.refl _ _ : Below w.heap.size w w)
  go_wp2_with (first
 | (go_at_call 75; (with_reducible refine (T0.out _).mono ?_); rintro e w' ⟨rfl, hb⟩; have hb_ := Lib.hid (below_below HB.out hb); clear HB hb; have HB := hb_))
  go_ret
  exact ⟨rfl, HB.out⟩
theorem hhigh (c : Int) (hc : H16 c) (w : World) : Calls Tryz.prog 79 #[.int .u16 c] w fun e w' => e = .returned (.int .i64 (cHigh c)) ∧ Below w.heap.size w w' := by
  have T0 := Lib.hid (fun w => calls_below (half_at c 9 7 9 7 hc rfl rfl (by decide) (by decide) w))
  have b0 := fd_lit (a := c) (h := 9) (l := 7) (n := 8) rfl
  unfold cHigh
  generalize fd c 9 7 = x at *
  go_enter Tryz.func79, Tryz.ntmps79
  have HB := Lib.hid (Below.refl _ _ : Below w.heap.size w w)
  go_wp2_with (first
 | (go_at_call 75; (with_reducible refine (T0.out _).mono ?_); rintro e w' ⟨rfl, hb⟩; have hb_ := Lib.hid (below_below HB.out hb); clear HB hb; have HB := hb_))
  go_ret
  exact ⟨rfl, HB.out⟩
theorem hn (c : Int) (hc : H16 c) (w : World) : Calls Tryz.prog 84 #[.int .u16 c] w fun e w' => e = .returned (.int .i64 (cN c)) ∧ Below w.heap.size w w' := by
  have T12_12 := Lib.hid (fun w => calls_below (half_at c 12 12 12 12 hc rfl rfl (by decide) (by decide) w))
  have T6_2 := Lib.hid (fun w => calls_below (half_at c 6 2 6 2 hc rfl rfl (by decide) (by decide) w))
  have b12_12 := fd_lit (a := c) (h := 12) (l := 12) (n := 2) rfl
  have b6_2 := fd_lit (a := c) (h := 6) (l := 2) (n := 32) rfl
  unfold cN
  generalize fd c 12 12 = x12_12 at *
  generalize fd c 6 2 = x6_2 at *
  have o1_x6_2 : bits .or .i64 (x12_12 * 32) (x6_2) = x12_12 * 32 + x6_2 := i64_orp 5 32 rfl ⟨by omega, by omega⟩ (by omega) ⟨by omega, by omega⟩ (by omega)
  go_enter Tryz.func84, Tryz.ntmps84
  have HB := Lib.hid (Below.refl _ _ : Below w.heap.size w w)
  go_wp2_with (first
 | (go_at_call 75; (with_reducible refine (T12_12.out _).mono ?_); rintro e w' ⟨rfl, hb⟩; have hb_ := Lib.hid (below_below HB.out hb); clear HB hb; have HB := hb_)
 | (go_at_call 75; (with_reducible refine (T6_2.out _).mono ?_); rintro e w' ⟨rfl, hb⟩; have hb_ := Lib.hid (below_below HB.out hb); clear HB hb; have HB := hb_))
  go_ret
  exact ⟨rfl, HB.out⟩
theorem hsigned (c : Int) (hc : H16 c) (w : World) : Calls Tryz.prog 83 #[.int .u16 c] w fun e w' => e = .returned (.int .i64 (sx 6 (cN c))) ∧ Below w.heap.size w w' := by
  have T0 := Lib.hid (hn c hc)
  have T1 := Lib.hid (fun w => calls_same (signed_any (cN c) 6 6 rfl (by decide) (by decide) (cN_bd c) w))
  generalize sx 6 (cN c) = s at *
  generalize cN c = n at *
  go_enter Tryz.func83, Tryz.ntmps83
  have HB := Lib.hid (Below.refl _ _ : Below w.heap.size w w)
  go_wp2_with (first
 | (go_at_call 84; (with_reducible refine (T0.out _).mono ?_); rintro e w' ⟨rfl, hb⟩; have hb_ := Lib.hid (below_below HB.out hb); clear HB hb; have HB := hb_)
 | (go_at_call 82; (with_reducible refine (T1.out _).mono ?_); rintro e w' ⟨rfl, hb⟩; have hb_ := Lib.hid (below_below HB.out hb); clear HB hb; have HB := hb_))
  go_ret
  exact ⟨rfl, HB.out⟩
theorem load_any (a1 a2 a3 a4 : Int) (w : World) : Calls Tryz.prog 78 #[.int .i64 a1, .int .i64 a2, .int .i64 a3, .int .i64 a4] w fun e w' => e = .returned (.agg #[.int .i64 6, .int .i64 0, .int .i64 a2, .int .i64 a3, .int .i64 0, .int .i64 a4, .int .i64 a1, .bool true]) ∧ Below w.heap.size w w' := by
  go_enter Tryz.func78, Tryz.ntmps78
  go_wp2_with (first
 | (refine Step.freshAlloc rfl rfl (alloc_agg zero_inst) ?_; intro g1 w1 b hg hb; have ST := Lib.hid (S1.made b hg hb); clear b hg hb)
 | (refine Step.storeAll ST.out.one rfl rfl rfl rfl rfl size_inst rfl rfl ?_; intro w3 nb m; replace ST := Lib.hid (ST.out.set1 nb m); clear nb m))
  refine bodyPost_ret (results_row rfl _ _ g1 _ _ _ rfl ST.out.one Tryz.underlying85 rfl size_inst) rfl ⟨rfl, ST.out.below⟩
theorem store_any (a1 a2 a3 a4 : Int) (w : World) : Calls Tryz.prog 80 #[.int .i64 a1, .int .i64 a2, .int .i64 a3, .int .i64 a4] w fun e w' => e = .returned (.agg #[.int .i64 7, .int .i64 0, .int .i64 0, .int .i64 a3, .int .i64 a2, .int .i64 a4, .int .i64 a1, .bool false]) ∧ Below w.heap.size w w' := by
  go_enter Tryz.func80, Tryz.ntmps80
  go_wp2_with (first
 | (refine Step.freshAlloc rfl rfl (alloc_agg zero_inst) ?_; intro g1 w1 b hg hb; have ST := Lib.hid (S1.made b hg hb); clear b hg hb)
 | (refine Step.storeAll ST.out.one rfl rfl rfl rfl rfl size_inst rfl rfl ?_; intro w3 nb m; replace ST := Lib.hid (ST.out.set1 nb m); clear nb m))
  refine bodyPost_ret (results_row rfl _ _ g1 _ _ _ rfl ST.out.one Tryz.underlying85 rfl size_inst) rfl ⟨rfl, ST.out.below⟩
theorem with_any (a1 a2 a3 a4 : Int) (w : World) : Calls Tryz.prog 76 #[.int .i64 a1, .int .i64 a2, .int .i64 a3, .int .i64 a4] w fun e w' => e = .returned (.agg #[.int .i64 9, .int .i64 a1, .int .i64 a2, .int .i64 a3, .int .i64 0, .int .i64 a4, .int .i64 0, .bool false]) ∧ Below w.heap.size w w' := by
  go_enter Tryz.func76, Tryz.ntmps76
  go_wp2_with (first
 | (refine Step.freshAlloc rfl rfl (alloc_agg zero_inst) ?_; intro g1 w1 b hg hb; have ST := Lib.hid (S1.made b hg hb); clear b hg hb)
 | (refine Step.storeAll ST.out.one rfl rfl rfl rfl rfl size_inst rfl rfl ?_; intro w3 nb m; replace ST := Lib.hid (ST.out.set1 nb m); clear nb m))
  refine bodyPost_ret (results_row rfl _ _ g1 _ _ _ rfl ST.out.one Tryz.underlying85 rfl size_inst) rfl ⟨rfl, ST.out.below⟩
theorem of_any (a1 a2 a3 a4 : Int) (w : World) : Calls Tryz.prog 115 #[.int .i64 a1, .int .i64 a2, .int .i64 a3, .int .i64 a4] w fun e w' => e = .returned (.agg #[.int .i64 8, .int .i64 a1, .int .i64 a2, .int .i64 a3, .int .i64 a4, .int .i64 0, .int .i64 0, .bool false]) ∧ Below w.heap.size w w' := by
  go_enter Tryz.func115, Tryz.ntmps115
  go_wp2_with (first
 | (refine Step.freshAlloc rfl rfl (alloc_agg zero_inst) ?_; intro g1 w1 b hg hb; have ST := Lib.hid (S1.made b hg hb); clear b hg hb)
 | (refine Step.storeAll ST.out.one rfl rfl rfl rfl rfl size_inst rfl rfl ?_; intro w3 nb m; replace ST := Lib.hid (ST.out.set1 nb m); clear nb m))
  refine bodyPost_ret (results_row rfl _ _ g1 _ _ _ rfl ST.out.one Tryz.underlying85 rfl size_inst) rfl ⟨rfl, ST.out.below⟩
set_option maxHeartbeats 2000000 in
theorem first_any (c : Int) (hc : H16 c) (w : World) : Calls Tryz.prog 57 #[.int .u16 c] w fun e w' => Says (e0 (fd c 15 13) c) e ∧ Below w.heap.size w w' := by
  have T5_5 := Lib.hid (fun w => calls_below (half_at c 5 5 5 5 hc rfl rfl (by decide) (by decide) w))
  have T12_10 := Lib.hid (fun w => calls_below (half_at c 12 10 12 10 hc rfl rfl (by decide) (by decide) w))
  have T6_6 := Lib.hid (fun w => calls_below (half_at c 6 6 6 6 hc rfl rfl (by decide) (by decide) w))
  have T6_5 := Lib.hid (fun w => calls_below (half_at c 6 5 6 5 hc rfl rfl (by decide) (by decide) w))
  have T15_13 := Lib.hid (fun w => calls_below (half_at c 15 13 15 13 hc rfl rfl (by decide) (by decide) w))
  have T10_7 := Lib.hid (fun w => calls_below (half_at c 10 7 10 7 hc rfl rfl (by decide) (by decide) w))
  have T12_11 := Lib.hid (fun w => calls_below (half_at c 12 11 12 11 hc rfl rfl (by decide) (by decide) w))
  have Hrd := Lib.hid (hrd c hc)
  have Hrs2 := Lib.hid (hrs2 c hc)
  have Hlow := Lib.hid (hlow c hc)
  have Hhigh := Lib.hid (hhigh c hc)
  have Hn := Lib.hid (hn c hc)
  have Hsigned := Lib.hid (hsigned c hc)
  have b5_5 := fd_lit (a := c) (h := 5) (l := 5) (n := 2) rfl
  have b12_10 := fd_lit (a := c) (h := 12) (l := 10) (n := 8) rfl
  have b6_6 := fd_lit (a := c) (h := 6) (l := 6) (n := 2) rfl
  have b6_5 := fd_lit (a := c) (h := 6) (l := 5) (n := 4) rfl
  have b15_13 := fd_lit (a := c) (h := 15) (l := 13) (n := 8) rfl
  have b10_7 := fd_lit (a := c) (h := 10) (l := 7) (n := 16) rfl
  have b12_11 := fd_lit (a := c) (h := 12) (l := 11) (n := 4) rfl
  unfold e0 cA4 cW4 cW8
  generalize cLow c = low at *
  generalize cHigh c = high at *
  generalize fd c 5 5 = x5_5 at *
  generalize fd c 12 10 = x12_10 at *
  generalize fd c 6 6 = x6_6 at *
  generalize fd c 6 5 = x6_5 at *
  generalize fd c 15 13 = x15_13 at *
  generalize fd c 10 7 = x10_7 at *
  generalize fd c 12 11 = x12_11 at *
  have o1_x12_10 : bits .or .i64 (x5_5 * 64) (x12_10 * 8) = x5_5 * 64 + x12_10 * 8 := i64_orp 6 64 rfl ⟨by omega, by omega⟩ (by omega) ⟨by omega, by omega⟩ (by omega)
  have o2_x6_6 : bits .or .i64 (x5_5 * 64 + x12_10 * 8) (x6_6 * 4) = x5_5 * 64 + x12_10 * 8 + x6_6 * 4 := i64_orp 3 8 rfl ⟨by omega, by omega⟩ (by omega) ⟨by omega, by omega⟩ (by omega)
  have p1_x12_10 : bits .or .i64 (x6_5 * 64) (x12_10 * 8) = x6_5 * 64 + x12_10 * 8 := i64_orp 6 64 rfl ⟨by omega, by omega⟩ (by omega) ⟨by omega, by omega⟩ (by omega)
  have r1_x12_11 : bits .or .i64 (x10_7 * 64) (x12_11 * 16) = x10_7 * 64 + x12_11 * 16 := i64_orp 6 64 rfl ⟨by omega, by omega⟩ (by omega) ⟨by omega, by omega⟩ (by omega)
  have r2_x5_5 : bits .or .i64 (x10_7 * 64 + x12_11 * 16) (x5_5 * 8) = x10_7 * 64 + x12_11 * 16 + x5_5 * 8 := i64_orp 4 16 rfl ⟨by omega, by omega⟩ (by omega) ⟨by omega, by omega⟩ (by omega)
  have r3_x6_6 : bits .or .i64 (x10_7 * 64 + x12_11 * 16 + x5_5 * 8) (x6_6 * 4) = x10_7 * 64 + x12_11 * 16 + x5_5 * 8 + x6_6 * 4 := i64_orp 3 8 rfl ⟨by omega, by omega⟩ (by omega) ⟨by omega, by omega⟩ (by omega)
  by_cases h0 : x15_13 = 0
  · subst h0
    obtain ⟨n, hn⟩ : ∃ n, x10_7 * 64 + x12_11 * 16 + x5_5 * 8 + x6_6 * 4 = n := ⟨_, rfl⟩
    rw [hn]
    by_cases h : n = 0
    · rw [show ((if (0 : Int) = 0 then (if n = 0 then none else some ⟨9, 1, low, 2, 0, n, 0, false⟩) else if (0 : Int) = 2 then some ⟨6, 0, low, high, 0, x5_5 * 64 + x12_10 * 8 + x6_6 * 4, 4, true⟩ else if (0 : Int) = 3 then some ⟨6, 0, low, high, 0, x6_5 * 64 + x12_10 * 8, 8, true⟩ else if (0 : Int) = 6 then some ⟨7, 0, 0, high, low, x5_5 * 64 + x12_10 * 8 + x6_6 * 4, 4, false⟩ else if (0 : Int) = 7 then some ⟨7, 0, 0, high, low, x6_5 * 64 + x12_10 * 8, 8, false⟩ else none) : Option Ins) = (none : Option Ins) from by simp [h]]
      go_enter Tryz.func57, Tryz.ntmps57
      go_wp2_with (first
 | (go_at_call 75; (with_reducible refine (T5_5.out _).mono ?_); rintro e w' ⟨rfl, hb⟩; replace ST := Lib.hid (ST.out.call hb); clear hb)
 | (go_at_call 75; (with_reducible refine (T12_10.out _).mono ?_); rintro e w' ⟨rfl, hb⟩; replace ST := Lib.hid (ST.out.call hb); clear hb)
 | (go_at_call 75; (with_reducible refine (T6_6.out _).mono ?_); rintro e w' ⟨rfl, hb⟩; replace ST := Lib.hid (ST.out.call hb); clear hb)
 | (go_at_call 75; (with_reducible refine (T6_5.out _).mono ?_); rintro e w' ⟨rfl, hb⟩; replace ST := Lib.hid (ST.out.call hb); clear hb)
 | (go_at_call 75; (with_reducible refine (T15_13.out _).mono ?_); rintro e w' ⟨rfl, hb⟩; replace ST := Lib.hid (ST.out.call hb); clear hb)
 | (go_at_call 75; (with_reducible refine (T10_7.out _).mono ?_); rintro e w' ⟨rfl, hb⟩; replace ST := Lib.hid (ST.out.call hb); clear hb)
 | (go_at_call 75; (with_reducible refine (T12_11.out _).mono ?_); rintro e w' ⟨rfl, hb⟩; replace ST := Lib.hid (ST.out.call hb); clear hb)
 | (go_at_call 77; (with_reducible refine (Hlow.out _).mono ?_); rintro e w' ⟨rfl, hb⟩; replace ST := Lib.hid (ST.out.call hb); clear hb)
 | (go_at_call 76; (with_reducible refine (with_any _ _ _ _ _).mono ?_); rintro e w' ⟨rfl, hb⟩; replace ST := Lib.hid (ST.out.call hb); clear hb)
 | (refine Step.freshAlloc rfl rfl (alloc_agg zero_inst) ?_; intro g1 w1 b hg hb; have ST := Lib.hid (S1.made b hg hb); clear b hg hb)
 | (refine Step.storeAll ST.out.one rfl rfl rfl rfl rfl size_inst rfl rfl ?_; intro w3 nb m; replace ST := Lib.hid (ST.out.set1 nb m); clear nb m))
      refine bodyPost_ret (results_row_tmp rfl _ _ g1 _ _ _ rfl ST.out.one Tryz.underlying85 rfl size_inst) rfl ⟨⟨⟨9, 1, low, 2, 0, 0, 0, false⟩, false, rfl, by simp [h]⟩, ST.out.below⟩
    · rw [show ((if (0 : Int) = 0 then (if n = 0 then none else some ⟨9, 1, low, 2, 0, n, 0, false⟩) else if (0 : Int) = 2 then some ⟨6, 0, low, high, 0, x5_5 * 64 + x12_10 * 8 + x6_6 * 4, 4, true⟩ else if (0 : Int) = 3 then some ⟨6, 0, low, high, 0, x6_5 * 64 + x12_10 * 8, 8, true⟩ else if (0 : Int) = 6 then some ⟨7, 0, 0, high, low, x5_5 * 64 + x12_10 * 8 + x6_6 * 4, 4, false⟩ else if (0 : Int) = 7 then some ⟨7, 0, 0, high, low, x6_5 * 64 + x12_10 * 8, 8, false⟩ else none) : Option Ins) = (some ⟨9, 1, low, 2, 0, n, 0, false⟩ : Option Ins) from by simp [h]]
      go_enter Tryz.func57, Tryz.ntmps57
      go_wp2_with (first
 | (go_at_call 75; (with_reducible refine (T5_5.out _).mono ?_); rintro e w' ⟨rfl, hb⟩; replace ST := Lib.hid (ST.out.call hb); clear hb)
 | (go_at_call 75; (with_reducible refine (T12_10.out _).mono ?_); rintro e w' ⟨rfl, hb⟩; replace ST := Lib.hid (ST.out.call hb); clear hb)
 | (go_at_call 75; (with_reducible refine (T6_6.out _).mono ?_); rintro e w' ⟨rfl, hb⟩; replace ST := Lib.hid (ST.out.call hb); clear hb)
 | (go_at_call 75; (with_reducible refine (T6_5.out _).mono ?_); rintro e w' ⟨rfl, hb⟩; replace ST := Lib.hid (ST.out.call hb); clear hb)
 | (go_at_call 75; (with_reducible refine (T15_13.out _).mono ?_); rintro e w' ⟨rfl, hb⟩; replace ST := Lib.hid (ST.out.call hb); clear hb)
 | (go_at_call 75; (with_reducible refine (T10_7.out _).mono ?_); rintro e w' ⟨rfl, hb⟩; replace ST := Lib.hid (ST.out.call hb); clear hb)
 | (go_at_call 75; (with_reducible refine (T12_11.out _).mono ?_); rintro e w' ⟨rfl, hb⟩; replace ST := Lib.hid (ST.out.call hb); clear hb)
 | (go_at_call 77; (with_reducible refine (Hlow.out _).mono ?_); rintro e w' ⟨rfl, hb⟩; replace ST := Lib.hid (ST.out.call hb); clear hb)
 | (go_at_call 76; (with_reducible refine (with_any _ _ _ _ _).mono ?_); rintro e w' ⟨rfl, hb⟩; replace ST := Lib.hid (ST.out.call hb); clear hb)
 | (refine Step.freshAlloc rfl rfl (alloc_agg zero_inst) ?_; intro g1 w1 b hg hb; have ST := Lib.hid (S1.made b hg hb); clear b hg hb)
 | (refine Step.storeAll ST.out.one rfl rfl rfl rfl rfl size_inst rfl rfl ?_; intro w3 nb m; replace ST := Lib.hid (ST.out.set1 nb m); clear nb m))
      refine bodyPost_ret (results_row_tmp rfl _ _ g1 _ _ _ rfl ST.out.one Tryz.underlying85 rfl size_inst) rfl ⟨⟨⟨9, 1, low, 2, 0, n, 0, false⟩, (n != 0), rfl, by simp [h]⟩, ST.out.below⟩
  by_cases h2 : x15_13 = 2
  · subst h2
    rw [show ((if (2 : Int) = 0 then (if x10_7 * 64 + x12_11 * 16 + x5_5 * 8 + x6_6 * 4 = 0 then none else some ⟨9, 1, low, 2, 0, x10_7 * 64 + x12_11 * 16 + x5_5 * 8 + x6_6 * 4, 0, false⟩) else if (2 : Int) = 2 then some ⟨6, 0, low, high, 0, x5_5 * 64 + x12_10 * 8 + x6_6 * 4, 4, true⟩ else if (2 : Int) = 3 then some ⟨6, 0, low, high, 0, x6_5 * 64 + x12_10 * 8, 8, true⟩ else if (2 : Int) = 6 then some ⟨7, 0, 0, high, low, x5_5 * 64 + x12_10 * 8 + x6_6 * 4, 4, false⟩ else if (2 : Int) = 7 then some ⟨7, 0, 0, high, low, x6_5 * 64 + x12_10 * 8, 8, false⟩ else none) : Option Ins) = (some ⟨6, 0, low, high, 0, x5_5 * 64 + x12_10 * 8 + x6_6 * 4, 4, true⟩ : Option Ins) from by simp []]
    go_enter Tryz.func57, Tryz.ntmps57
    go_wp2_with (first
 | (go_at_call 75; (with_reducible refine (T5_5.out _).mono ?_); rintro e w' ⟨rfl, hb⟩; replace ST := Lib.hid (ST.out.call hb); clear hb)
 | (go_at_call 75; (with_reducible refine (T12_10.out _).mono ?_); rintro e w' ⟨rfl, hb⟩; replace ST := Lib.hid (ST.out.call hb); clear hb)
 | (go_at_call 75; (with_reducible refine (T6_6.out _).mono ?_); rintro e w' ⟨rfl, hb⟩; replace ST := Lib.hid (ST.out.call hb); clear hb)
 | (go_at_call 75; (with_reducible refine (T6_5.out _).mono ?_); rintro e w' ⟨rfl, hb⟩; replace ST := Lib.hid (ST.out.call hb); clear hb)
 | (go_at_call 75; (with_reducible refine (T15_13.out _).mono ?_); rintro e w' ⟨rfl, hb⟩; replace ST := Lib.hid (ST.out.call hb); clear hb)
 | (go_at_call 77; (with_reducible refine (Hlow.out _).mono ?_); rintro e w' ⟨rfl, hb⟩; replace ST := Lib.hid (ST.out.call hb); clear hb)
 | (go_at_call 79; (with_reducible refine (Hhigh.out _).mono ?_); rintro e w' ⟨rfl, hb⟩; replace ST := Lib.hid (ST.out.call hb); clear hb)
 | (go_at_call 78; (with_reducible refine (load_any _ _ _ _ _).mono ?_); rintro e w' ⟨rfl, hb⟩; replace ST := Lib.hid (ST.out.call hb); clear hb)
 | (refine Step.freshAlloc rfl rfl (alloc_agg zero_inst) ?_; intro g1 w1 b hg hb; have ST := Lib.hid (S1.made b hg hb); clear b hg hb)
 | (refine Step.storeAll ST.out.one rfl rfl rfl rfl rfl size_inst rfl rfl ?_; intro w3 nb m; replace ST := Lib.hid (ST.out.set1 nb m); clear nb m))
    refine bodyPost_ret (results_row_tmp rfl _ _ g1 _ _ _ rfl ST.out.one Tryz.underlying85 rfl size_inst) rfl ⟨⟨⟨6, 0, low, high, 0, x5_5 * 64 + x12_10 * 8 + x6_6 * 4, 4, true⟩, true, rfl, by simp []⟩, ST.out.below⟩
  by_cases h3 : x15_13 = 3
  · subst h3
    rw [show ((if (3 : Int) = 0 then (if x10_7 * 64 + x12_11 * 16 + x5_5 * 8 + x6_6 * 4 = 0 then none else some ⟨9, 1, low, 2, 0, x10_7 * 64 + x12_11 * 16 + x5_5 * 8 + x6_6 * 4, 0, false⟩) else if (3 : Int) = 2 then some ⟨6, 0, low, high, 0, x5_5 * 64 + x12_10 * 8 + x6_6 * 4, 4, true⟩ else if (3 : Int) = 3 then some ⟨6, 0, low, high, 0, x6_5 * 64 + x12_10 * 8, 8, true⟩ else if (3 : Int) = 6 then some ⟨7, 0, 0, high, low, x5_5 * 64 + x12_10 * 8 + x6_6 * 4, 4, false⟩ else if (3 : Int) = 7 then some ⟨7, 0, 0, high, low, x6_5 * 64 + x12_10 * 8, 8, false⟩ else none) : Option Ins) = (some ⟨6, 0, low, high, 0, x6_5 * 64 + x12_10 * 8, 8, true⟩ : Option Ins) from by simp []]
    go_enter Tryz.func57, Tryz.ntmps57
    go_wp2_with (first
 | (go_at_call 75; (with_reducible refine (T5_5.out _).mono ?_); rintro e w' ⟨rfl, hb⟩; replace ST := Lib.hid (ST.out.call hb); clear hb)
 | (go_at_call 75; (with_reducible refine (T12_10.out _).mono ?_); rintro e w' ⟨rfl, hb⟩; replace ST := Lib.hid (ST.out.call hb); clear hb)
 | (go_at_call 75; (with_reducible refine (T6_6.out _).mono ?_); rintro e w' ⟨rfl, hb⟩; replace ST := Lib.hid (ST.out.call hb); clear hb)
 | (go_at_call 75; (with_reducible refine (T6_5.out _).mono ?_); rintro e w' ⟨rfl, hb⟩; replace ST := Lib.hid (ST.out.call hb); clear hb)
 | (go_at_call 75; (with_reducible refine (T15_13.out _).mono ?_); rintro e w' ⟨rfl, hb⟩; replace ST := Lib.hid (ST.out.call hb); clear hb)
 | (go_at_call 77; (with_reducible refine (Hlow.out _).mono ?_); rintro e w' ⟨rfl, hb⟩; replace ST := Lib.hid (ST.out.call hb); clear hb)
 | (go_at_call 79; (with_reducible refine (Hhigh.out _).mono ?_); rintro e w' ⟨rfl, hb⟩; replace ST := Lib.hid (ST.out.call hb); clear hb)
 | (go_at_call 78; (with_reducible refine (load_any _ _ _ _ _).mono ?_); rintro e w' ⟨rfl, hb⟩; replace ST := Lib.hid (ST.out.call hb); clear hb)
 | (refine Step.freshAlloc rfl rfl (alloc_agg zero_inst) ?_; intro g1 w1 b hg hb; have ST := Lib.hid (S1.made b hg hb); clear b hg hb)
 | (refine Step.storeAll ST.out.one rfl rfl rfl rfl rfl size_inst rfl rfl ?_; intro w3 nb m; replace ST := Lib.hid (ST.out.set1 nb m); clear nb m))
    refine bodyPost_ret (results_row_tmp rfl _ _ g1 _ _ _ rfl ST.out.one Tryz.underlying85 rfl size_inst) rfl ⟨⟨⟨6, 0, low, high, 0, x6_5 * 64 + x12_10 * 8, 8, true⟩, true, rfl, by simp []⟩, ST.out.below⟩
  by_cases h6 : x15_13 = 6
  · subst h6
    rw [show ((if (6 : Int) = 0 then (if x10_7 * 64 + x12_11 * 16 + x5_5 * 8 + x6_6 * 4 = 0 then none else some ⟨9, 1, low, 2, 0, x10_7 * 64 + x12_11 * 16 + x5_5 * 8 + x6_6 * 4, 0, false⟩) else if (6 : Int) = 2 then some ⟨6, 0, low, high, 0, x5_5 * 64 + x12_10 * 8 + x6_6 * 4, 4, true⟩ else if (6 : Int) = 3 then some ⟨6, 0, low, high, 0, x6_5 * 64 + x12_10 * 8, 8, true⟩ else if (6 : Int) = 6 then some ⟨7, 0, 0, high, low, x5_5 * 64 + x12_10 * 8 + x6_6 * 4, 4, false⟩ else if (6 : Int) = 7 then some ⟨7, 0, 0, high, low, x6_5 * 64 + x12_10 * 8, 8, false⟩ else none) : Option Ins) = (some ⟨7, 0, 0, high, low, x5_5 * 64 + x12_10 * 8 + x6_6 * 4, 4, false⟩ : Option Ins) from by simp []]
    go_enter Tryz.func57, Tryz.ntmps57
    go_wp2_with (first
 | (go_at_call 75; (with_reducible refine (T5_5.out _).mono ?_); rintro e w' ⟨rfl, hb⟩; replace ST := Lib.hid (ST.out.call hb); clear hb)
 | (go_at_call 75; (with_reducible refine (T12_10.out _).mono ?_); rintro e w' ⟨rfl, hb⟩; replace ST := Lib.hid (ST.out.call hb); clear hb)
 | (go_at_call 75; (with_reducible refine (T6_6.out _).mono ?_); rintro e w' ⟨rfl, hb⟩; replace ST := Lib.hid (ST.out.call hb); clear hb)
 | (go_at_call 75; (with_reducible refine (T6_5.out _).mono ?_); rintro e w' ⟨rfl, hb⟩; replace ST := Lib.hid (ST.out.call hb); clear hb)
 | (go_at_call 75; (with_reducible refine (T15_13.out _).mono ?_); rintro e w' ⟨rfl, hb⟩; replace ST := Lib.hid (ST.out.call hb); clear hb)
 | (go_at_call 77; (with_reducible refine (Hlow.out _).mono ?_); rintro e w' ⟨rfl, hb⟩; replace ST := Lib.hid (ST.out.call hb); clear hb)
 | (go_at_call 79; (with_reducible refine (Hhigh.out _).mono ?_); rintro e w' ⟨rfl, hb⟩; replace ST := Lib.hid (ST.out.call hb); clear hb)
 | (go_at_call 80; (with_reducible refine (store_any _ _ _ _ _).mono ?_); rintro e w' ⟨rfl, hb⟩; replace ST := Lib.hid (ST.out.call hb); clear hb)
 | (refine Step.freshAlloc rfl rfl (alloc_agg zero_inst) ?_; intro g1 w1 b hg hb; have ST := Lib.hid (S1.made b hg hb); clear b hg hb)
 | (refine Step.storeAll ST.out.one rfl rfl rfl rfl rfl size_inst rfl rfl ?_; intro w3 nb m; replace ST := Lib.hid (ST.out.set1 nb m); clear nb m))
    refine bodyPost_ret (results_row_tmp rfl _ _ g1 _ _ _ rfl ST.out.one Tryz.underlying85 rfl size_inst) rfl ⟨⟨⟨7, 0, 0, high, low, x5_5 * 64 + x12_10 * 8 + x6_6 * 4, 4, false⟩, true, rfl, by simp []⟩, ST.out.below⟩
  by_cases h7 : x15_13 = 7
  · subst h7
    rw [show ((if (7 : Int) = 0 then (if x10_7 * 64 + x12_11 * 16 + x5_5 * 8 + x6_6 * 4 = 0 then none else some ⟨9, 1, low, 2, 0, x10_7 * 64 + x12_11 * 16 + x5_5 * 8 + x6_6 * 4, 0, false⟩) else if (7 : Int) = 2 then some ⟨6, 0, low, high, 0, x5_5 * 64 + x12_10 * 8 + x6_6 * 4, 4, true⟩ else if (7 : Int) = 3 then some ⟨6, 0, low, high, 0, x6_5 * 64 + x12_10 * 8, 8, true⟩ else if (7 : Int) = 6 then some ⟨7, 0, 0, high, low, x5_5 * 64 + x12_10 * 8 + x6_6 * 4, 4, false⟩ else if (7 : Int) = 7 then some ⟨7, 0, 0, high, low, x6_5 * 64 + x12_10 * 8, 8, false⟩ else none) : Option Ins) = (some ⟨7, 0, 0, high, low, x6_5 * 64 + x12_10 * 8, 8, false⟩ : Option Ins) from by simp []]
    go_enter Tryz.func57, Tryz.ntmps57
    go_wp2_with (first
 | (go_at_call 75; (with_reducible refine (T5_5.out _).mono ?_); rintro e w' ⟨rfl, hb⟩; replace ST := Lib.hid (ST.out.call hb); clear hb)
 | (go_at_call 75; (with_reducible refine (T12_10.out _).mono ?_); rintro e w' ⟨rfl, hb⟩; replace ST := Lib.hid (ST.out.call hb); clear hb)
 | (go_at_call 75; (with_reducible refine (T6_6.out _).mono ?_); rintro e w' ⟨rfl, hb⟩; replace ST := Lib.hid (ST.out.call hb); clear hb)
 | (go_at_call 75; (with_reducible refine (T6_5.out _).mono ?_); rintro e w' ⟨rfl, hb⟩; replace ST := Lib.hid (ST.out.call hb); clear hb)
 | (go_at_call 75; (with_reducible refine (T15_13.out _).mono ?_); rintro e w' ⟨rfl, hb⟩; replace ST := Lib.hid (ST.out.call hb); clear hb)
 | (go_at_call 77; (with_reducible refine (Hlow.out _).mono ?_); rintro e w' ⟨rfl, hb⟩; replace ST := Lib.hid (ST.out.call hb); clear hb)
 | (go_at_call 79; (with_reducible refine (Hhigh.out _).mono ?_); rintro e w' ⟨rfl, hb⟩; replace ST := Lib.hid (ST.out.call hb); clear hb)
 | (go_at_call 80; (with_reducible refine (store_any _ _ _ _ _).mono ?_); rintro e w' ⟨rfl, hb⟩; replace ST := Lib.hid (ST.out.call hb); clear hb)
 | (refine Step.freshAlloc rfl rfl (alloc_agg zero_inst) ?_; intro g1 w1 b hg hb; have ST := Lib.hid (S1.made b hg hb); clear b hg hb)
 | (refine Step.storeAll ST.out.one rfl rfl rfl rfl rfl size_inst rfl rfl ?_; intro w3 nb m; replace ST := Lib.hid (ST.out.set1 nb m); clear nb m))
    refine bodyPost_ret (results_row_tmp rfl _ _ g1 _ _ _ rfl ST.out.one Tryz.underlying85 rfl size_inst) rfl ⟨⟨⟨7, 0, 0, high, low, x6_5 * 64 + x12_10 * 8, 8, false⟩, true, rfl, by simp []⟩, ST.out.below⟩
  rw [show ((if x15_13 = 0 then (if x10_7 * 64 + x12_11 * 16 + x5_5 * 8 + x6_6 * 4 = 0 then none else some ⟨9, 1, low, 2, 0, x10_7 * 64 + x12_11 * 16 + x5_5 * 8 + x6_6 * 4, 0, false⟩) else if x15_13 = 2 then some ⟨6, 0, low, high, 0, x5_5 * 64 + x12_10 * 8 + x6_6 * 4, 4, true⟩ else if x15_13 = 3 then some ⟨6, 0, low, high, 0, x6_5 * 64 + x12_10 * 8, 8, true⟩ else if x15_13 = 6 then some ⟨7, 0, 0, high, low, x5_5 * 64 + x12_10 * 8 + x6_6 * 4, 4, false⟩ else if x15_13 = 7 then some ⟨7, 0, 0, high, low, x6_5 * 64 + x12_10 * 8, 8, false⟩ else none) : Option Ins) = (none : Option Ins) from by simp [h0, h2, h3, h6, h7]]
  go_enter Tryz.func57, Tryz.ntmps57
  go_wp2_with (first
 | (go_at_call 75; (with_reducible refine (T5_5.out _).mono ?_); rintro e w' ⟨rfl, hb⟩; replace ST := Lib.hid (ST.out.call hb); clear hb)
 | (go_at_call 75; (with_reducible refine (T12_10.out _).mono ?_); rintro e w' ⟨rfl, hb⟩; replace ST := Lib.hid (ST.out.call hb); clear hb)
 | (go_at_call 75; (with_reducible refine (T6_6.out _).mono ?_); rintro e w' ⟨rfl, hb⟩; replace ST := Lib.hid (ST.out.call hb); clear hb)
 | (go_at_call 75; (with_reducible refine (T6_5.out _).mono ?_); rintro e w' ⟨rfl, hb⟩; replace ST := Lib.hid (ST.out.call hb); clear hb)
 | (go_at_call 75; (with_reducible refine (T15_13.out _).mono ?_); rintro e w' ⟨rfl, hb⟩; replace ST := Lib.hid (ST.out.call hb); clear hb)
 | (refine Step.freshAlloc rfl rfl (alloc_agg zero_inst) ?_; intro g1 w1 b hg hb; have ST := Lib.hid (S1.made b hg hb); clear b hg hb)
 | (refine Step.storeAll ST.out.one rfl rfl rfl rfl rfl size_inst rfl rfl ?_; intro w3 nb m; replace ST := Lib.hid (ST.out.set1 nb m); clear nb m))
  refine bodyPost_ret (results_row_tmp rfl _ _ g1 _ _ _ rfl ST.out.one Tryz.underlying85 rfl size_inst) rfl ⟨⟨⟨0, 0, 0, 0, 0, 0, 0, false⟩, false, rfl, by simp [h0, h2, h3, h6, h7]⟩, ST.out.below⟩
end Go.Proofs.YtchpnbckgofiaaaGreat.Enc
end
section
namespace Go.Proofs.YtchpnbckgofiaaaGreat.Enc
open Go Go.RowKit Go.Proofs.YtchpnbckgofiaaaGreat.Step
set_option linter.unusedVariables false
set_option linter.unusedSimpArgs false
set_option maxRecDepth 100000
theorem u16_and_nat (a b : Nat) (ha : a < 65536) (hb : b < 65536) : bits .and .u16 (a : Int) (b : Int) = ((a &&& b : Nat) : Int) := by
  have hx : a &&& b < 2 ^ 16 := Nat.and_lt_two_pow _ (by omega)
  show IntKind.u16.wrap ((BitVec.ofInt 16 (a : Int) &&& BitVec.ofInt 16 (b : Int)).toNat : Int) = _
  rw [BitVec.toNat_and, BitVec.ofInt_natCast, BitVec.ofInt_natCast, BitVec.toNat_ofNat, BitVec.toNat_ofNat, Nat.mod_eq_of_lt (by omega), Nat.mod_eq_of_lt (by omega)]
  show (_ : Int) % 65536 = _
  omega
theorem u16_mask3 {c : Int} (h : 0 ≤ c ∧ c < 65536) : bits .and .u16 c 3 = c % 4 := by
  obtain ⟨n, rfl⟩ := Int.eq_ofNat_of_zero_le h.1
  have := u16_and_nat n 3 (by omega) (by decide)
  rw [show ((3 : Nat) : Int) = 3 from rfl] at this
  rw [this, show n &&& 3 = n % 4 from Nat.and_two_pow_sub_one_eq_mod n 2]
  omega
theorem size_any (c : Int) (h0 : 0 ≤ c ∧ c < 65536) (w : World) : Calls Tryz.prog 14 #[.int .u16 c] w fun e w' => e = .returned (.int .i64 (if c % 4 = 3 then 4 else 2)) ∧ Below w.heap.size w w' := by
  have hm : bits .and .u16 c 3 = c % 4 := u16_mask3 h0
  by_cases h : c % 4 = 3
  · rw [if_pos h]
    rw [h] at hm
    clear h h0
    go_enter Tryz.func14, Tryz.ntmps14
    have HB := Lib.hid (Below.refl _ _ : Below w.heap.size w w)
    go_wp2
    go_ret
    exact ⟨rfl, HB.out⟩
  · rw [if_neg h]
    have hm' : (bits .and .u16 c 3 == 3) = false := by rw [hm]; exact beq_eq_false_iff_ne.2 h
    clear hm h h0
    go_enter Tryz.func14, Tryz.ntmps14
    have HB := Lib.hid (Below.refl _ _ : Below w.heap.size w w)
    go_wp2
    go_ret
    exact ⟨rfl, HB.out⟩
end Go.Proofs.YtchpnbckgofiaaaGreat.Enc
end
section
namespace Go.Proofs.YtchpnbckgofiaaaGreat
open Go Go.RowKit Go.ChangeShapes Go.WideShapes Go.ChangeAt
set_option linter.unusedVariables false
set_option linter.unusedSimpArgs false
set_option maxRecDepth 100000
section
variable {H : Type} {enc : TypeId × Value → H} {W : World} {base : Nat} {sp : Nat → Bool} {held : Bool}
theorem co_int : Tryz.prog.cellsOf 3 = 1 := by kernel_rfl
theorem co_bool : Tryz.prog.cellsOf 4 = 1 := by kernel_rfl
theorem bd_i64 {v : Int} (h : (Lit.int .i64 v).wf = true) : -9223372036854775808 ≤ v ∧ v < 9223372036854775808 := by have := bounds_i64 h; exact ⟨by omega, by omega⟩
end
end Go.Proofs.YtchpnbckgofiaaaGreat
end
section
namespace Go.Proofs.YtchpnbckgofiaaaGreat.Enc
open Go Go.RowKit Go.Proofs.YtchpnbckgofiaaaGreat.Step
set_option linter.unusedVariables false
set_option linter.unusedSimpArgs false
set_option maxRecDepth 100000
theorem word_all (i : Ins) (hr : InR i) (w : World) : Calls Tryz.prog 99 #[.agg i.cells] w fun e w' => e = .returned (.int .u32 (wordP i)) ∧ Below w.heap.size w w' :=
  word_any i.k i.fn i.rd i.rs1 i.rs2 i.imm i.sz i.sg hr.2.2.2.2.1 hr.2.2.2.2.2 w
theorem ite_w {p : Prop} [Decidable p] {x y : Int} (h1 : W32 x) (h2 : W32 y) : W32 (if p then x else y) := by
  by_cases c : p
  · rw [if_pos c]; exact h1
  · rw [if_neg c]; exact h2
theorem wordP_w (i : Ins) (hz : 0 ≤ i.sz ∧ i.sz ≤ 8) : W32 (wordP i) := by
  obtain ⟨k, fn, rd, rs1, rs2, imm, sz, sg⟩ := i
  show W32 (wordF k fn rd rs1 rs2 imm sz sg)
  unfold wordF
  repeat' (first
    | exact bor_w _ _
    | refine ite_w ?_ ?_
    | fail)
  all_goals exact ⟨by decide, by decide⟩
end Go.Proofs.YtchpnbckgofiaaaGreat.Enc
end
