/- Parts of the walks and laws for the claim: DecG, Use, UseC, LinkW, Dr, LawJ, RowJ; no conditions beyond the theorems' own. -/
import Derived.Test.YthkodjkkcgdmfaaGreatT11
import Derived.Test.YthkodjkkcgdmfaaGreatT15
import Derived.Test.YthkodjkkcgdmfaaGreatT18
import Derived.Test.YthkodjkkcgdmfaaGreatT23
import Derived.Test.YthkodjkkcgdmfaaGreatT24
import Derived.Test.YthkodjkkcgdmfaaGreatT25
import Derived.Test.YthkodjkkcgdmfaaGreatT26
import Derived.Test.YthkodjkkcgdmfaaGreatX1
import Derived.Test.YthkodjkkcgdmfaaGreatX2
import Derived.Test.YthkodjkkcgdmfaaGreatX3
section
namespace Go.Proofs.YthkodjkkcgdmfaaGreat.Enc
open Go Go.RowKit Go.Proofs.YthkodjkkcgdmfaaGreat.Step
set_option linter.unusedVariables false
set_option linter.unusedSimpArgs false
set_option maxRecDepth 100000
theorem rDec_111 (a : Int) (ha : W32 a) (h : fd a 6 0 = 111) (w : World) : Calls Tryz.prog 45 #[.int .u32 a] w fun e w' => e = .returned (told (dec a)) ∧ Below w.heap.size w w' := by
  unfold dec
  rw [h]
  exact rdec_111 a ha h w
theorem rDec_99 (a : Int) (ha : W32 a) (h : fd a 6 0 = 99) (w : World) : Calls Tryz.prog 45 #[.int .u32 a] w fun e w' => e = .returned (told (dec a)) ∧ Below w.heap.size w w' := by
  unfold dec
  rw [h]
  exact rdec_99 a ha h w
end Go.Proofs.YthkodjkkcgdmfaaGreat.Enc
end
section
namespace Go.Proofs.YthkodjkkcgdmfaaGreat.Hart
open Go Go.RowKit Go.Proofs.YthkodjkkcgdmfaaGreat.Step Go.Proofs.YthkodjkkcgdmfaaGreat.Enc Go.Proofs.YthkodjkkcgdmfaaGreat.Kn
open Go.Proofs.YthkodjkkcgdmfaaGreat.Mem (Ram Grow hasB newB wholeB num wr Rd fl Arg lst)
open Go.Proofs.YthkodjkkcgdmfaaGreat.Duo (Duo RdC cm size_two)
set_option linter.unusedVariables false
set_option linter.unusedSimpArgs false
set_option maxRecDepth 100000
section
variable {W X w w' : World} {h1 h2 n g : Nat} {base : Int} {m1 m2 m1' : Nat → Int} {F1 F2 F1' : Nat → Prop} {L L' L0 : Blks} {c : Array Value} {T : TypeId} {tv : Value} {vmid : Int}
end
/-- A step of the word at the beginning, whose kind is 3. -/
theorem step_jal {W : World} {gc gm : Nat} {tv : Value} {m0 mem2 : Nat → Int} {F : Nat → Prop} {s2 : Stp} {u : Int} (hk : Kor W gc gm tv 0 2147483648 1 (wr m0 0 4 u) F) (h : Hrt) (hf : Fit h) (now : Int) (hpc : h.pc = 2147483648) (hsie : h.sie = 0) (hsat : h.satp = 0) (hu : W32 u) {fn rd rs1 rs2 imm sz : Int} {sg : Bool} (hd : dec u = some ⟨3, fn, rd, rs1, rs2, imm, sz, sg⟩) (TD : Hid (∀ w, Calls Tryz.prog 63 #[.int .u32 u] w fun e w' => e = .returned (told (dec u)) ∧ Below w.heap.size w w')) (hg2 : s2.gc = gc)
    (HK : ∀ (W' : World) (gs r : Nat) (F' : Nat → Prop), Sy W' gs (decP (newS gc now (ord h)) u ⟨3, fn, rd, rs1, rs2, imm, sz, sg⟩) gm tv 0 0 (.map (some r)) 2147483648 1 (wr m0 0 4 u) F' (fun k => k = r) (KT r fun _ => True) → Calls Tryz.prog 89 #[.pointer (some ⟨gs, 0, none⟩)] W' fun e w' => e = .returned (.tuple #[]) ∧ Out W' w' gs s2 gm tv 0 0 (.map (some r)) 2147483648 1 mem2 F' (fun k => k = r) (KT r fun _ => True)) :
    Calls Tryz.prog 23 #[.pointer (some ⟨gc, 0, none⟩), .agg (hc h), .int .u64 now] W fun e w' => e = .returned (.tuple #[.agg (hc (zeroX s2).h), .agg (ecells (zeroX s2))]) ∧ ∃ F', Kor w' gc gm tv 0 2147483648 1 mem2 F' ∧ Mod (fun k => k = gc ∨ F k) W w' ∧ ∀ k, F' k → F k ∨ W.heap.size ≤ k := by
  have hh := hu.out
  have e4 : u / 65536 * 65536 + u % 65536 = u := by omega
  have hl := word_lo m0 u hu
  have p0 := ord_pc0 hpc
  refine step_any (s2 := zeroX s2) hk h hf now hg2 fun W' gs r y => ?_
  have hsat2 : (ord h).satp = 0 := hsat
  refine run_jal y (show (ord h).satp / 1152921504606846976 = 0 by rw [hsat2]; rfl) (show U64 (ord h).satp by rw [hsat2]; exact ⟨by decide, by decide⟩) (ord_sie0 hsie) (show 0 ≤ (ord h).pc ∧ (ord h).pc + 2 < 18446744073709551616 by rw [p0]; decide) (show hasB 2147483648 1 (ord h).pc 2 = true by rw [p0]; decide) (show hasB 2147483648 1 ((ord h).pc + 2) 2 = true by rw [p0]; decide) (u % 65536) (u / 65536) (by rw [show (newS gc now (ord h)).was.pc = 2147483648 from p0]; exact hl.1) (by rw [show (newS gc now (ord h)).was.pc = 2147483648 from p0]; exact hl.2) (by omega) (by omega) (by have := dec_low hd; omega) fn rd rs1 rs2 imm sz sg (by rw [e4]; exact hd) (by rw [e4]; exact TD) ?_
  rw [e4]
  exact fun W'' F' y2 => HK W'' gs r F' y2
/-- A step of the word at the beginning, whose kind is 5. -/
theorem step_branch {W : World} {gc gm : Nat} {tv : Value} {m0 mem2 : Nat → Int} {F : Nat → Prop} {s2 : Stp} {u : Int} (hk : Kor W gc gm tv 0 2147483648 1 (wr m0 0 4 u) F) (h : Hrt) (hf : Fit h) (now : Int) (hpc : h.pc = 2147483648) (hsie : h.sie = 0) (hsat : h.satp = 0) (hu : W32 u) {fn rd rs1 rs2 imm sz : Int} {sg : Bool} (hd : dec u = some ⟨5, fn, rd, rs1, rs2, imm, sz, sg⟩) (TD : Hid (∀ w, Calls Tryz.prog 63 #[.int .u32 u] w fun e w' => e = .returned (told (dec u)) ∧ Below w.heap.size w w')) (hg2 : s2.gc = gc)
    (HK : ∀ (W' : World) (gs r : Nat) (F' : Nat → Prop), Sy W' gs (decP (newS gc now (ord h)) u ⟨5, fn, rd, rs1, rs2, imm, sz, sg⟩) gm tv 0 0 (.map (some r)) 2147483648 1 (wr m0 0 4 u) F' (fun k => k = r) (KT r fun _ => True) → Calls Tryz.prog 91 #[.pointer (some ⟨gs, 0, none⟩)] W' fun e w' => e = .returned (.tuple #[]) ∧ Out W' w' gs s2 gm tv 0 0 (.map (some r)) 2147483648 1 mem2 F' (fun k => k = r) (KT r fun _ => True)) :
    Calls Tryz.prog 23 #[.pointer (some ⟨gc, 0, none⟩), .agg (hc h), .int .u64 now] W fun e w' => e = .returned (.tuple #[.agg (hc (zeroX s2).h), .agg (ecells (zeroX s2))]) ∧ ∃ F', Kor w' gc gm tv 0 2147483648 1 mem2 F' ∧ Mod (fun k => k = gc ∨ F k) W w' ∧ ∀ k, F' k → F k ∨ W.heap.size ≤ k := by
  have hh := hu.out
  have e4 : u / 65536 * 65536 + u % 65536 = u := by omega
  have hl := word_lo m0 u hu
  have p0 := ord_pc0 hpc
  refine step_any (s2 := zeroX s2) hk h hf now hg2 fun W' gs r y => ?_
  have hsat2 : (ord h).satp = 0 := hsat
  refine run_branch y (show (ord h).satp / 1152921504606846976 = 0 by rw [hsat2]; rfl) (show U64 (ord h).satp by rw [hsat2]; exact ⟨by decide, by decide⟩) (ord_sie0 hsie) (show 0 ≤ (ord h).pc ∧ (ord h).pc + 2 < 18446744073709551616 by rw [p0]; decide) (show hasB 2147483648 1 (ord h).pc 2 = true by rw [p0]; decide) (show hasB 2147483648 1 ((ord h).pc + 2) 2 = true by rw [p0]; decide) (u % 65536) (u / 65536) (by rw [show (newS gc now (ord h)).was.pc = 2147483648 from p0]; exact hl.1) (by rw [show (newS gc now (ord h)).was.pc = 2147483648 from p0]; exact hl.2) (by omega) (by omega) (by have := dec_low hd; omega) fn rd rs1 rs2 imm sz sg (by rw [e4]; exact hd) (by rw [e4]; exact TD) ?_
  rw [e4]
  exact fun W'' F' y2 => HK W'' gs r F' y2
end Go.Proofs.YthkodjkkcgdmfaaGreat.Hart
end
section
namespace Go.Proofs.YthkodjkkcgdmfaaGreat.Hart
open Go Go.RowKit Go.Proofs.YthkodjkkcgdmfaaGreat.Step Go.Proofs.YthkodjkkcgdmfaaGreat.Enc Go.Proofs.YthkodjkkcgdmfaaGreat.Kn
open Go.Proofs.YthkodjkkcgdmfaaGreat.Mem (Ram Grow hasB newB wholeB num wr Rd fl Arg lst)
open Go.Proofs.YthkodjkkcgdmfaaGreat.Duo (Duo RdC cm size_two)
set_option linter.unusedVariables false
set_option linter.unusedSimpArgs false
set_option maxRecDepth 100000
section
variable {P : Program} {ops : Array Oper} {rest : List Oper} {o : Oper} {a : Act} {W : World} {Q : Exit → Act → World → Prop}
theorem loadMidW {t : TypeId} {x : Operand} {g k : Nat} {cs ds : Array Value} {T : TypeId} {d : TypeDesc} (hB : Blk W g cs T) (hw : Region.wanted o (yielded ops a.tmps) = true) (ho : o.op = .load t x) (hx : a.eval x = .pointer (some ⟨g, k, none⟩)) (hr : Row cs k ds) (hu : P.underlying t = some d)
    (hd : d.isRow = true) (hi : (P.info? t).map (·.size) = some ds.size) (h : wpList P ops Q rest (a.put o.dst (.agg ds)) W) : wpList P ops Q (o :: rest) a W := by
  refine BigFrame.wpList_want hw fun K hK => ?_
  have h2 := run_loadAt_mid (P := P) W g k t ds.toList d (fun j v hv => (hB.cell (k + j)).trans (hr j v hv)) hu hd (by simpa using hi)
  have h3 : (execOp a.eval o).run P W = .ok (.value (.agg ds)) W := by simp [execOp, ho, hx, h2, Result.andThen]
  unfold Oper.wp; rw [h3]; exact hK _ _ h
theorem valueW {v : Value} (hw : Region.wanted o (yielded ops a.tmps) = true) (hr : (execOp a.eval o).run P W = .ok (.value v) W) (h : wpList P ops Q rest (a.put o.dst v) W) : wpList P ops Q (o :: rest) a W := by
  refine BigFrame.wpList_want hw fun K hK => ?_
  unfold Oper.wp; rw [hr]; exact hK _ _ h
end
/-- A hart's registers. -/
def xa (x : Nat → Int) : Array Value := (Array.range 32).map fun i => .int .u64 (x i)
theorem xa_size (x : Nat → Int) : (xa x).size = 32 := by simp [xa]
theorem size_arr (x : Nat → Int) : (Tryz.prog.info? 23).map (·.size) = some (xa x).size := by
  rw [xa_size]
  exact (by kernel_rfl : (Tryz.prog.info? 23).map (·.size) = some 32)
theorem row_x (h : Hrt) : Row (hc h) 0 (xa h.x) := fun j v hv => by
  rw [Array.getElem?_toList] at hv
  have hj : j < 32 := by
    have := (Array.getElem?_eq_some_iff.1 hv).1
    rwa [xa_size] at this
  rw [Nat.zero_add, hc_x h hj]
  simpa [xa, hj] using hv
theorem eql_arr {a : Act} {o : Oper} {x y : Operand} {f : Nat → Int} (ho : o.op = .binOp .eql 23 x y 23) (hx : a.eval x = .agg (xa f)) (hy : a.eval y = .agg (xa f)) (W : World) : (execOp a.eval o).run Tryz.prog W = .ok (.value (.bool true)) W := by
  have hg := run_eqGuard_agg (P := Tryz.prog) (w := W) .eql 23 x y (xa f) (xa f) (by kernel_rfl)
  have he : (Op.equal 23 (.agg (xa f)) (.agg (xa f))).run Tryz.prog W = .ok true W := arr_same 9998 f W
  simp only [execOp, ho, hx, hy]
  simp [binOp, hg, he, Sem.run_bind, Result.andThen]
theorem xup_zero {x : Nat → Int} (h : x 0 = 0) : xup x 0 0 = x := by
  funext k
  unfold xup
  split
  · rename_i e; rw [e, h]
  · rfl
end Go.Proofs.YthkodjkkcgdmfaaGreat.Hart
end
section
namespace Go.Proofs.YthkodjkkcgdmfaaGreat.Enc
open Go Go.RowKit Go.Proofs.YthkodjkkcgdmfaaGreat.Step
set_option linter.unusedVariables false
set_option linter.unusedSimpArgs false
set_option maxRecDepth 100000
/-- A displacement's bits: negative ones have the highest bit. -/
def jalU (d n : Int) : Int := 111 + d * 128 + (if n < 0 then 255 else 0) * 4096 + (if n < 0 then 1 else 0) * 1048576 + (n % 2048 / 2) * 2097152 + (if n < 0 then 1 else 0) * 2147483648
def braU (f3 n : Int) : Int := 99 + (if n < 0 then 1 else 0) * 128 + (n % 32 / 2) * 256 + f3 * 4096 + 5 * 32768 + 6 * 1048576 + (n % 2048 / 32) * 33554432 + (if n < 0 then 1 else 0) * 2147483648
set_option maxHeartbeats 4000000 in
theorem jal_word (d n : Int) (hd : 0 ≤ d ∧ d < 32) (hn : -2048 ≤ n ∧ n < 2048) (he : n % 2 = 0) : W32 (jalU d n) ∧ fd (jalU d n) 6 0 = 111 ∧ dec (jalU d n) = some ⟨3, 0, d, 0, 0, n, 0, false⟩ := by
  obtain ⟨a, ha⟩ : ∃ a, a = jalU d n := ⟨_, rfl⟩
  rw [← ha]
  unfold jalU at ha
  have key : ∀ s : Int, (s = 0 ∧ 0 ≤ n ∨ s = 1 ∧ n < 0) → a = 111 + d * 128 + (s * 255) * 4096 + s * 1048576 + (n % 2048 / 2) * 2097152 + s * 2147483648 → W32 a ∧ fd a 6 0 = 111 ∧ dec a = some ⟨3, 0, d, 0, 0, n, 0, false⟩ := by
    intro s hs e
    obtain ⟨m, hm⟩ : ∃ m, m = n % 2048 / 2 := ⟨_, rfl⟩
    rw [← hm] at e
    have hm2 : 0 ≤ m ∧ m < 1024 := by omega
    have e0 : fd a 6 0 = 111 := by rw [fd_of (n := 1) (m := 128) rfl rfl]; omega
    have e1 : fd a 11 7 = d := by rw [fd_of (n := 128) (m := 32) rfl rfl]; omega
    have e2 : fd a 31 31 = s := by rw [fd_of (n := 2147483648) (m := 2) rfl rfl]; omega
    have e3 : fd a 19 12 = s * 255 := by rw [fd_of (n := 4096) (m := 256) rfl rfl]; omega
    have e4 : fd a 20 20 = s := by rw [fd_of (n := 1048576) (m := 2) rfl rfl]; omega
    have e5 : fd a 30 21 = m := by rw [fd_of (n := 2097152) (m := 1024) rfl rfl]; omega
    have hi : immJ a = n := by
      unfold immJ rawJ sx
      rw [e2, e3, e4, e5]
      simp only [Nat.reduceSub, Nat.reducePow]
      rcases hs with ⟨rfl, hs⟩ | ⟨rfl, hs⟩
      · first | (rw [if_pos (by omega)]; omega) | (rw [if_neg (by omega)]; omega) | omega
      · first | (rw [if_pos (by omega)]; omega) | (rw [if_neg (by omega)]; omega) | omega
    refine ⟨⟨by omega, by omega⟩, e0, ?_⟩
    unfold dec
    rw [e0, show decOp 111 a = some ⟨3, 0, fd a 11 7, 0, 0, immJ a, 0, false⟩ from by simp [decOp], e1, hi]
  by_cases h : n < 0
  · simp only [if_pos h] at ha
    exact key 1 (.inr ⟨rfl, h⟩) (by omega)
  · simp only [if_neg h] at ha
    exact key 0 (.inl ⟨rfl, by omega⟩) (by omega)
theorem jal_wordP {d n : Int} (hd : 0 ≤ d ∧ d < 32) (hn : -2048 ≤ n ∧ n < 2048) (he : n % 2 = 0) : wordP ⟨3, 0, d, 0, 0, n, 0, false⟩ = jalU d n := by
  obtain ⟨hw, ho, h⟩ := jal_word d n hd hn he
  rw [word_enc hw h, enc_dec hw h]
  exact cn_eq ho (by decide) (by decide)
theorem bra_fd (a s m k f3 : Int) (hs : s = 0 ∨ s = 1) (hm : 0 ≤ m ∧ m < 16) (hk : 0 ≤ k ∧ k < 64) (hf : 0 ≤ f3 ∧ f3 < 8) (e : a = 99 + s * 128 + m * 256 + f3 * 4096 + 5 * 32768 + 6 * 1048576 + k * 33554432 + s * 2147483648) :
    fd a 6 0 = 99 ∧ fd a 7 7 = s ∧ fd a 31 31 = s ∧ fd a 30 25 = k ∧ fd a 11 8 = m ∧ fd a 14 12 = f3 ∧ fd a 19 15 = 5 ∧ fd a 24 20 = 6 ∧ W32 a := by
  rw [fd_of (h := 6) (l := 0) (n := 1) (m := 128) rfl rfl, fd_of (h := 7) (l := 7) (n := 128) (m := 2) rfl rfl, fd_of (h := 31) (l := 31) (n := 2147483648) (m := 2) rfl rfl, fd_of (h := 30) (l := 25) (n := 33554432) (m := 64) rfl rfl, fd_of (h := 11) (l := 8) (n := 256) (m := 16) rfl rfl, fd_of (h := 14) (l := 12) (n := 4096) (m := 8) rfl rfl, fd_of (h := 19) (l := 15) (n := 32768) (m := 32) rfl rfl, fd_of (h := 24) (l := 20) (n := 1048576) (m := 32) rfl rfl]
  rcases hs with rfl | rfl
  · exact ⟨by omega, by omega, by omega, by omega, by omega, by omega, by omega, by omega, ⟨by omega, by omega⟩⟩
  · exact ⟨by omega, by omega, by omega, by omega, by omega, by omega, by omega, by omega, ⟨by omega, by omega⟩⟩
set_option maxHeartbeats 4000000 in
theorem bra_word (f3 fn n : Int) (hf : 0 ≤ f3 ∧ f3 < 8) (hfn : pk brL f3 = fn) (h0 : ¬ fn = 0) (hn : -2048 ≤ n ∧ n < 2048) (he : n % 2 = 0) : W32 (braU f3 n) ∧ fd (braU f3 n) 6 0 = 99 ∧ dec (braU f3 n) = some ⟨5, fn, 0, 5, 6, n, 0, false⟩ := by
  obtain ⟨a, ha⟩ : ∃ a, a = braU f3 n := ⟨_, rfl⟩
  rw [← ha]
  unfold braU at ha
  have key : ∀ s : Int, (s = 0 ∧ 0 ≤ n ∨ s = 1 ∧ n < 0) → a = 99 + s * 128 + (n % 32 / 2) * 256 + f3 * 4096 + 5 * 32768 + 6 * 1048576 + (n % 2048 / 32) * 33554432 + s * 2147483648 → W32 a ∧ fd a 6 0 = 99 ∧ dec a = some ⟨5, fn, 0, 5, 6, n, 0, false⟩ := by
    intro s hs e
    obtain ⟨m, hm⟩ : ∃ m, m = n % 32 / 2 := ⟨_, rfl⟩
    obtain ⟨k, hk⟩ : ∃ k, k = n % 2048 / 32 := ⟨_, rfl⟩
    rw [← hm, ← hk] at e
    have hm2 : 0 ≤ m ∧ m < 16 := by omega
    have hk2 : 0 ≤ k ∧ k < 64 := by omega
    obtain ⟨e0, e1, e2, e3, e4, e5, e6, e7, e8⟩ := bra_fd a s m k f3 (by omega) hm2 hk2 hf e
    have hi : immB a = n := by
      unfold immB rawB sx
      rw [e1, e2, e3, e4]
      simp only [Nat.reduceSub, Nat.reducePow]
      rcases hs with ⟨rfl, hs⟩ | ⟨rfl, hs⟩
      · first | (rw [if_pos (by omega)]; omega) | (rw [if_neg (by omega)]; omega) | omega
      · first | (rw [if_pos (by omega)]; omega) | (rw [if_neg (by omega)]; omega) | omega
    refine ⟨e8, e0, ?_⟩
    unfold dec
    rw [e0, show decOp 99 a = (if pk brL (fd a 14 12) = 0 then none else some ⟨5, pk brL (fd a 14 12), 0, fd a 19 15, fd a 24 20, immB a, 0, false⟩) from by simp [decOp], e5, e6, e7, hi, hfn, if_neg h0]
  by_cases h : n < 0
  · simp only [if_pos h] at ha
    exact key 1 (.inr ⟨rfl, h⟩) (by omega)
  · simp only [if_neg h] at ha
    exact key 0 (.inl ⟨rfl, by omega⟩) (by omega)
theorem bra_wordP {f3 fn n : Int} (hf : 0 ≤ f3 ∧ f3 < 8) (hfn : pk brL f3 = fn) (h0 : ¬ fn = 0) (hn : -2048 ≤ n ∧ n < 2048) (he : n % 2 = 0) : wordP ⟨5, fn, 0, 5, 6, n, 0, false⟩ = braU f3 n := by
  obtain ⟨hw, ho, h⟩ := bra_word f3 fn n hf hfn h0 hn he
  rw [word_enc hw h, enc_dec hw h]
  exact cn_eq ho (by decide) (by decide)
end Go.Proofs.YthkodjkkcgdmfaaGreat.Enc
end
section
namespace Go.Proofs.YthkodjkkcgdmfaaGreat.Hart
open Go Go.RowKit Go.Proofs.YthkodjkkcgdmfaaGreat.Step Go.Proofs.YthkodjkkcgdmfaaGreat.Enc Go.Proofs.YthkodjkkcgdmfaaGreat.Kn
open Go.Proofs.YthkodjkkcgdmfaaGreat.Mem (Ram Grow hasB newB wholeB num wr Rd fl Arg lst)
open Go.Proofs.YthkodjkkcgdmfaaGreat.Duo (Duo RdC cm size_two)
set_option linter.unusedVariables false
set_option linter.unusedSimpArgs false
set_option maxRecDepth 100000
/-- Two cores' memories and the listed blocks, all of them new and apart. -/
structure DR (W w : World) (h1 h2 : Nat) (base : Int) (n : Nat) (m1 m2 : Nat → Int) (F1 F2 : Nat → Prop) (L : Blks) : Prop where
  one : Ram w h1 base n m1 F1
  two : Ram w h2 base n m2 F2
  apart : ∀ k, F1 k → ¬ F2 k
  new : ∀ k, F1 k ∨ F2 k → W.heap.size ≤ k
  kn : Kn Step.Nil W w L
  ap : ∀ k, F1 k ∨ F2 k → ∀ p ∈ L, p.1 ≠ k
section
variable {W w w' : World} {h1 h2 h3 h4 n g : Nat} {base : Int} {m1 m2 m3 m4 m1' : Nat → Int} {F1 F2 F3 F4 F1' : Nat → Prop} {L L' L3 : Blks} {c c' : Array Value} {T : TypeId} {tv km : Value} {vmid : Int}
theorem DR.below (d : DR W w h1 h2 base n m1 m2 F1 F2 L) : Below W.heap.size W w := d.kn.below
theorem DR.call (d : DR W w h1 h2 base n m1 m2 F1 F2 L) (b : Below w.heap.size w w') : DR W w' h1 h2 base n m1 m2 F1 F2 L := ⟨d.one.below b, d.two.below b, d.apart, d.new, d.kn.call b, d.ap⟩
theorem DR.bound (d : DR W w h1 h2 base n m1 m2 F1 F2 L) : ∀ k, F1 k ∨ F2 k → k < w.heap.size := fun k h => h.elim (d.one.bound k) (d.two.bound k)
theorem DR.made (d : DR W w h1 h2 base n m1 m2 F1 F2 L) (b : Blk w' g c T) (hg : w.heap.size ≤ g) (hb : Below w.heap.size w w') : DR W w' h1 h2 base n m1 m2 F1 F2 ((g, c, T) :: L) :=
  ⟨d.one.below hb, d.two.below hb, d.apart, d.new, d.kn.made b hg hb, fun k hk p hp => by
    rcases List.mem_cons.1 hp with rfl | hp
    · have := d.bound k hk
      show g ≠ k
      omega
    · exact d.ap k hk p hp⟩
theorem DR.set (d : DR W w h1 h2 base n m1 m2 F1 F2 L) (k : Kn Step.Nil W w' L') (m : Mod (One g) w w') (hg : ∃ p ∈ L, p.1 = g) (hL : L'.map (·.1) = L.map (·.1)) : DR W w' h1 h2 base n m1 m2 F1 F2 L' := by
  obtain ⟨p, hp, rfl⟩ := hg
  refine ⟨d.one.mod m fun k hk e => d.ap k (.inl hk) p hp (e : k = p.1).symm, d.two.mod m fun k hk e => d.ap k (.inr hk) p hp (e : k = p.1).symm, d.apart, d.new, k, fun k hk q hq => ?_⟩
  have : q.1 ∈ L'.map (·.1) := List.mem_map.2 ⟨q, hq, rfl⟩
  rw [hL] at this
  obtain ⟨r, hr, e⟩ := List.mem_map.1 this
  rw [← e]
  exact d.ap k hk r hr
theorem DR.flip (d : DR W w h1 h2 base n m1 m2 F1 F2 L) : DR W w h2 h1 base n m2 m1 F2 F1 L := ⟨d.two, d.one, fun k h h' => d.apart k h' h, fun k h => d.new k h.symm, d.kn, fun k h => d.ap k h.symm⟩
theorem DR.perm (d : DR W w h1 h2 base n m1 m2 F1 F2 L) (p : L.Perm L') : DR W w h1 h2 base n m1 m2 F1 F2 L' :=
  ⟨d.one, d.two, d.apart, d.new, ⟨d.kn.mod, fun q hq => d.kn.blk q (p.mem_iff.2 hq), fun q hq => d.kn.own q (p.mem_iff.2 hq), (p.pairwise_iff (fun h => h.symm)).1 d.kn.nod⟩, fun k hk q hq => d.ap k hk q (p.mem_iff.2 hq)⟩
theorem DR.drop {p : Nat × Array Value × TypeId} (d : DR W w h1 h2 base n m1 m2 F1 F2 (p :: L)) : DR W w h1 h2 base n m1 m2 F1 F2 L := ⟨d.one, d.two, d.apart, d.new, d.kn.drop, fun k hk q hq => d.ap k hk q (List.mem_cons_of_mem _ hq)⟩
theorem DR.core (d : DR W w h1 h2 base n m1 m2 F1 F2 ((g, ccg h1 tv 0 vmid 0 0 km, TC) :: L)) : Kor w g h1 tv vmid base n m1 F1 := ⟨.inl ⟨km, d.kn.at0⟩, d.one, fun hf => d.ap g (.inl hf) _ (List.mem_cons_self ..) rfl⟩
theorem DR.step (d : DR W w h1 h2 base n m1 m2 F1 F2 ((g, c, T) :: L)) (hk : Kor w' g h1 tv vmid base n m1' F1') (m : Mod (fun k => k = g ∨ F1 k) w w') (hF : ∀ k, F1' k → F1 k ∨ w.heap.size ≤ k) : DR W w' h1 h2 base n m1' m2 F1' F2 L := by
  have hg := fun k hk => (d.ap k (.inr hk) (g, c, T) (List.mem_cons_self ..))
  have hnod := List.pairwise_cons.1 d.kn.nod
  have hW := d.kn.mod.size
  refine ⟨hk.ram, d.two.mod m fun k h2 h => ?_, fun k h1 h2 => ?_, fun k h => ?_, d.kn.drop.turn m (fun p hp h => ?_) (fun i hi h => ?_), fun k h p hp e => ?_⟩
  · rcases h with h | h
    · exact hg k h2 h.symm
    · exact d.apart k h h2
  · rcases hF k h1 with h | h
    · exact d.apart k h h2
    · have := d.two.bound k h2; omega
  · rcases h with h | h
    · rcases hF k h with h | h
      · exact d.new k (.inl h)
      · omega
    · exact d.new k (.inr h)
  · rcases h with h | h
    · exact hnod.1 p hp (h : p.1 = g).symm
    · exact d.ap p.1 (.inl h) p (List.mem_cons_of_mem _ hp) rfl
  · rcases h with h | h
    · have h' : i = g := h
      subst h'
      exact (d.kn.own (i, c, T) (List.mem_cons_self ..) hi).elim
    · have := d.new i (.inl h); omega
  · have hb := (d.kn.blk p (List.mem_cons_of_mem _ hp)).lt
    rcases h with h | h
    · rcases hF k h with h | h
      · exact d.ap k (.inl h) p (List.mem_cons_of_mem _ hp) e
      · omega
    · exact d.ap k (.inr h) p (List.mem_cons_of_mem _ hp) e
/-- A second core beside a first. -/
theorem DK.pair (d : DK W w h1 h2 base n m1 m2 F1 F2 L) (e : DK w w' h3 h4 base n m3 m4 F3 F4 L3) : DR W w' h1 h3 base n m1 m3 F1 F3 (L3 ++ L) := by
  have j := DK.join d.kn e
  have hz := d.kn.mod.size
  refine ⟨d.one.below e.below, e.one, fun k h1 h3 => ?_, fun k h => ?_, j.kn, fun k h p hp => ?_⟩
  · have := d.one.bound k h1
    have := e.new k (.inl h3)
    omega
  · rcases h with h | h
    · exact d.new k (.inl h)
    · exact Nat.le_trans hz (e.new k (.inl h))
  · rcases h with h | h
    · rcases List.mem_append.1 hp with hp | hp
      · intro e2
        have := d.one.bound k h
        exact e.kn.own p hp (by omega)
      · exact d.ap k (.inl h) p hp
    · exact j.ap k (.inl h) p hp
end
theorem one_jal {n : Int} {d : Nat} (hd : d < 32) (hn : -2048 ≤ n ∧ n < 2048) (he : n % 2 = 0) (W : World) : Calls Tryz.prog 22 #[.agg #[.int .i64 3, .int .i64 0, .int .i64 (d : Int), .int .i64 0, .int .i64 0, .int .i64 n, .int .i64 0, .bool false], .slice none 0 0] W fun e w' => ∃ gc gt h1 h2 F1 F2, e = .returned (.tuple #[.pointer (some ⟨gc, 0, none⟩), .agg #[.pointer (some ⟨h1, 0, none⟩), .pointer (some ⟨h2, 0, none⟩)], .bool true]) ∧ DK W w' h1 h2 2147483648 1 (wr (cm 1 (fun _ => (0, 0)) 0) 0 4 (jalU d n)) (wr (cm 1 (fun _ => (0, 0)) 0) 0 4 (jalU d n)) F1 F2 ((gc, ccg h1 (.pointer (some ⟨gt, 0, none⟩)) 0 0 0 0 (.map none), TC) :: []) := by
  have hw : wordP ⟨3, 0, d, 0, 0, n, 0, false⟩ = jalU d n := jal_wordP (by omega) hn he
  obtain ⟨hu, ho, hdec⟩ := jal_word d n (by omega) hn he
  have h := one_any W ⟨3, 0, d, 0, 0, n, 0, false⟩ (by unfold InR; dsimp only; omega) (by rw [hw]; exact hu) (by rw [hw]; exact hdec) (Lib.hid (by rw [hw]; exact fun w => rDec_111 _ hu ho w)) none 0 0 (fun _ => (0, 0)) (no_cells _ _) (by decide)
  rw [hw] at h
  refine h.mono fun e w' q => ?_
  obtain ⟨gc, gt, h1, h2, F1, F2, rfl, d⟩ := q
  exact ⟨gc, gt, h1, h2, F1, F2, rfl, d.solo⟩
theorem one_bra {n f3 fn : Int} (hf : 0 ≤ f3 ∧ f3 < 8) (hfn : pk brL f3 = fn) (h1 : 1 ≤ fn ∧ fn ≤ 28) (hn : -2048 ≤ n ∧ n < 2048) (he : n % 2 = 0) (W : World) : Calls Tryz.prog 22 #[.agg #[.int .i64 5, .int .i64 fn, .int .i64 0, .int .i64 5, .int .i64 6, .int .i64 n, .int .i64 0, .bool false], .slice none 0 0] W fun e w' => ∃ gc gt h1 h2 F1 F2, e = .returned (.tuple #[.pointer (some ⟨gc, 0, none⟩), .agg #[.pointer (some ⟨h1, 0, none⟩), .pointer (some ⟨h2, 0, none⟩)], .bool true]) ∧ DK W w' h1 h2 2147483648 1 (wr (cm 1 (fun _ => (0, 0)) 0) 0 4 (braU f3 n)) (wr (cm 1 (fun _ => (0, 0)) 0) 0 4 (braU f3 n)) F1 F2 ((gc, ccg h1 (.pointer (some ⟨gt, 0, none⟩)) 0 0 0 0 (.map none), TC) :: []) := by
  have hw : wordP ⟨5, fn, 0, 5, 6, n, 0, false⟩ = braU f3 n := bra_wordP hf hfn (by omega) hn he
  obtain ⟨hu, ho, hdec⟩ := bra_word f3 fn n hf hfn (by omega) hn he
  have h := one_any W ⟨5, fn, 0, 5, 6, n, 0, false⟩ (by unfold InR; dsimp only; omega) (by rw [hw]; exact hu) (by rw [hw]; exact hdec) (Lib.hid (by rw [hw]; exact fun w => rDec_99 _ hu ho w)) none 0 0 (fun _ => (0, 0)) (no_cells _ _) (by decide)
  rw [hw] at h
  refine h.mono fun e w' q => ?_
  obtain ⟨gc, gt, h1, h2, F1, F2, rfl, d⟩ := q
  exact ⟨gc, gt, h1, h2, F1, F2, rfl, d.solo⟩
/-- The hart behind a jump. -/
def jalH (C : Hrt) (d : Nat) (n : Int) : Hrt := { ord C with pc := addW (ord C).pc (IntKind.u64.wrap n), x := xup (xup (ord C).x d (addW (ord C).pc 4)) 0 0 }
theorem step_link {n : Int} {d : Nat} (hd : d < 32) (hn : -2048 ≤ n ∧ n < 2048) (he : n % 2 = 0) {W : World} {gc gm : Nat} {tv : Value} {m0 : Nat → Int} {F : Nat → Prop} (hk : Kor W gc gm tv 0 2147483648 1 (wr m0 0 4 (jalU d n)) F) (C : Hrt) (hf : Fit C) (hpc : C.pc = 2147483648) (hsie : C.sie = 0) (hsat : C.satp = 0) :
    Calls Tryz.prog 23 #[.pointer (some ⟨gc, 0, none⟩), .agg (hc C), .int .u64 0] W fun e w' => e = .returned (.tuple #[.agg (hc (jalH C d n)), .agg #[.int .i64 0, .int .i64 0, .int .u64 0, .int .u64 0, .bool false, .bool false]]) ∧ ∃ F', Kor w' gc gm tv 0 2147483648 1 (wr m0 0 4 (jalU d n)) F' ∧ Mod (fun k => k = gc ∨ F k) W w' ∧ ∀ k, F' k → F k ∨ W.heap.size ≤ k := by
  obtain ⟨hu, ho, hdec⟩ := jal_word d n (by omega) hn he
  refine step_jal (s2 := jumpP (decP (newS gc 0 (ord C)) (jalU d n) ⟨3, 0, d, 0, 0, n, 0, false⟩) d (addW (ord C).pc (IntKind.u64.wrap n))) hk C hf 0 hpc hsie hsat hu hdec (Lib.hid (Dec_111 _ hu ho)) rfl fun W' gs r F' y => ?_
  refine (jal_any y.step (n := d) rfl hd).mono ?_
  rintro e w' ⟨rfl, nb, m⟩
  exact ⟨rfl, y.out.set nb m rfl⟩
/-- The hart behind a branch. -/
def braH (C : Hrt) (to : Int) : Hrt := { ord C with pc := to, x := xup (ord C).x 0 0 }
theorem step_bra {n f3 fn : Int} (hf3 : 0 ≤ f3 ∧ f3 < 8) (hfn : pk brL f3 = fn) (h1 : 1 ≤ fn ∧ fn ≤ 28) (hn : -2048 ≤ n ∧ n < 2048) (he : n % 2 = 0) {W : World} {gc gm : Nat} {tv : Value} {m0 : Nat → Int} {F : Nat → Prop} (hk : Kor W gc gm tv 0 2147483648 1 (wr m0 0 4 (braU f3 n)) F) (C : Hrt) (hf : Fit C) (hpc : C.pc = 2147483648) (hsie : C.sie = 0) (hsat : C.satp = 0) (to : Int) (hto : to = if brV fn (C.x 5) (C.x 6) = true then addW 2147483648 (IntKind.u64.wrap n) else 2147483652) :
    Calls Tryz.prog 23 #[.pointer (some ⟨gc, 0, none⟩), .agg (hc C), .int .u64 0] W fun e w' => e = .returned (.tuple #[.agg (hc (braH C to)), .agg #[.int .i64 0, .int .i64 0, .int .u64 0, .int .u64 0, .bool false, .bool false]]) ∧ ∃ F', Kor w' gc gm tv 0 2147483648 1 (wr m0 0 4 (braU f3 n)) F' ∧ Mod (fun k => k = gc ∨ F k) W w' ∧ ∀ k, F' k → F k ∨ W.heap.size ≤ k := by
  obtain ⟨hu, ho, hdec⟩ := bra_word f3 fn n hf3 hfn (by omega) hn he
  have p0 := ord_pc0 hpc
  have x5 : (ord C).x 5 = C.x 5 := xup_ne (i := 0) (j := 5) C.x 0 (by decide)
  have x6 : (ord C).x 6 = C.x 6 := xup_ne (i := 0) (j := 6) C.x 0 (by decide)
  have key : braH C to = (zeroX (branchP (decP (newS gc 0 (ord C)) (braU f3 n) ⟨5, fn, 0, 5, 6, n, 0, false⟩) 5 6)).h ∧ ecells (zeroX (branchP (decP (newS gc 0 (ord C)) (braU f3 n) ⟨5, fn, 0, 5, 6, n, 0, false⟩) 5 6)) = #[.int .i64 0, .int .i64 0, .int .u64 0, .int .u64 0, .bool false, .bool false] ∧ (branchP (decP (newS gc 0 (ord C)) (braU f3 n) ⟨5, fn, 0, 5, 6, n, 0, false⟩) 5 6).gc = gc := by
    subst hto
    unfold branchP
    by_cases hb : brV fn (C.x 5) (C.x 6) = true
    · have hb2 : brV (decP (newS gc 0 (ord C)) (braU f3 n) ⟨5, fn, 0, 5, 6, n, 0, false⟩).fn ((decP (newS gc 0 (ord C)) (braU f3 n) ⟨5, fn, 0, 5, 6, n, 0, false⟩).was.x 5) ((decP (newS gc 0 (ord C)) (braU f3 n) ⟨5, fn, 0, 5, 6, n, 0, false⟩).was.x 6) = true := by show brV fn ((ord C).x 5) ((ord C).x 6) = true; rw [x5, x6]; exact hb
      rw [if_pos hb, if_pos hb2]
      refine ⟨?_, rfl, rfl⟩
      rw [← p0]
      rfl
    · have hb2 : ¬ brV (decP (newS gc 0 (ord C)) (braU f3 n) ⟨5, fn, 0, 5, 6, n, 0, false⟩).fn ((decP (newS gc 0 (ord C)) (braU f3 n) ⟨5, fn, 0, 5, 6, n, 0, false⟩).was.x 5) ((decP (newS gc 0 (ord C)) (braU f3 n) ⟨5, fn, 0, 5, 6, n, 0, false⟩).was.x 6) = true := by show ¬ brV fn ((ord C).x 5) ((ord C).x 6) = true; rw [x5, x6]; exact hb
      rw [if_neg hb, if_neg hb2]
      refine ⟨?_, rfl, rfl⟩
      show { ord C with pc := 2147483652, x := xup (ord C).x 0 0 } = { ord C with pc := addW (ord C).pc 4, x := xup (ord C).x 0 0 }
      rw [p0, show addW 2147483648 4 = 2147483652 from by kernel_rfl]
  rw [key.1, ← key.2.1]
  refine step_branch (s2 := branchP (decP (newS gc 0 (ord C)) (braU f3 n) ⟨5, fn, 0, 5, 6, n, 0, false⟩) 5 6) hk C hf 0 hpc hsie hsat hu hdec (Lib.hid (Dec_99 _ hu ho)) key.2.2 fun W' gs r F' y => ?_
  refine (sbranch_any y.step (n1 := 5) (n2 := 6) rfl (by decide) rfl (by decide)).mono ?_
  rintro e w' ⟨rfl, nb, m⟩
  exact ⟨rfl, y.out.set nb m key.2.2⟩
end Go.Proofs.YthkodjkkcgdmfaaGreat.Hart
end
section
namespace Go.Proofs.YthkodjkkcgdmfaaGreat.Hart
open Go Go.RowKit Go.Proofs.YthkodjkkcgdmfaaGreat.Step Go.Proofs.YthkodjkkcgdmfaaGreat.Enc Go.Proofs.YthkodjkkcgdmfaaGreat.Kn
open Go.Proofs.YthkodjkkcgdmfaaGreat.Mem (Ram Grow hasB newB wholeB num wr Rd fl Arg lst)
open Go.Proofs.YthkodjkkcgdmfaaGreat.Duo (Duo RdC cm size_two)
set_option linter.unusedVariables false
set_option linter.unusedSimpArgs false
set_option maxRecDepth 100000
theorem perm3 {α : Type} (a b c : α) (L : List α) : (a :: b :: c :: L).Perm (c :: a :: b :: L) := List.perm_middle (l₁ := [a, b]) (a := c) (l₂ := L)
theorem perm4 {α : Type} (a b c d : α) (L : List α) : (a :: b :: c :: d :: L).Perm (d :: a :: b :: c :: L) := List.perm_middle (l₁ := [a, b, c]) (a := d) (l₂ := L)
theorem DK.drewd {W w : World} {h1 h2 n : Nat} {base : Int} {m1 m2 : Nat → Int} {F1 F2 : Nat → Prop} {L : Blks} (d : DK W w h1 h2 base n m1 m2 F1 F2 L) : DK W { w with drawn := w.drawn + 1 } h1 h2 base n m1 m2 F1 F2 L := d.call ⟨rfl, rfl, rfl, Nat.le_refl _, fun _ _ => rfl⟩
section
variable {W X w w' : World} {h1 h2 h3 h4 n : Nat} {base : Int} {m1 m2 m3 m4 : Nat → Int} {F1 F2 F3 F4 : Nat → Prop} {L : Blks} {p : Nat × Array Value × TypeId}
theorem DK.join1 (k : Kn Step.Nil W X L) (d : DK X w h1 h2 base n m1 m2 F1 F2 [p]) : DK W w h1 h2 base n m1 m2 F1 F2 (p :: L) := DK.join k d
theorem DK.pair1 (d : DK W w h1 h2 base n m1 m2 F1 F2 L) (e : DK w w' h3 h4 base n m3 m4 F3 F4 [p]) : DR W w' h1 h3 base n m1 m3 F1 F3 (p :: L) := DK.pair d e
end
theorem hc_d (h : Hrt) {i : Nat} (hi : i < 32) : (hc h)[i]? = some (.int .u64 (h.x i)) := hc_x h hi
theorem link_pc {h : Hrt} {d : Nat} (n : Int) : (hc (jalH (calmH h) d n))[32]? = some (.int .u64 (addW 2147483648 (IntKind.u64.wrap n))) := by
  show some (Value.int .u64 (addW (ord (calmH h)).pc (IntKind.u64.wrap n))) = _
  rw [show (ord (calmH h)).pc = 2147483648 from by kernel_rfl]
set_option maxHeartbeats 8000000 in
theorem link_a (h C H1 H2 H3 : Hrt) (rd im fi a b p q r n th t2 t3 f f2 u1 u2 u3 : Int) (d : Nat) (hd : d < 32) (hp : IntKind.i64.wrap (p + 1) = (d : Int)) (hq1 : IntKind.i64.wrap (2 * q) = 2 * q) (hq2 : IntKind.i64.wrap (2 * q - 2048) = n) (hr1 : IntKind.i64.wrap (2 * r) = 2 * r) (hr2 : IntKind.i64.wrap (1 + 2 * r) = f) (hr2w : wrap64 (1 + 2 * r) = f) (hr3 : IntKind.i64.wrap (f + 1) = f2) (eth : IntKind.u64.wrap (2147483648 + IntKind.u64.wrap n) = th)
    (TP1 : Hid (∀ w, Calls Tryz.prog 25 #[.int .i64 rd, .int .i64 31] w fun e w' => e = .returned (.int .i64 p) ∧ w = w')) (TP2 : Hid (∀ w, Calls Tryz.prog 25 #[.int .i64 im, .int .i64 2048] w fun e w' => e = .returned (.int .i64 q) ∧ w = w')) (TP3 : Hid (∀ w, Calls Tryz.prog 25 #[.int .i64 fi, .int .i64 3] w fun e w' => e = .returned (.int .i64 r) ∧ w = w'))
    (TC0 : Hid (∀ w, Calls Tryz.prog 24 #[.agg (hc h)] w fun e w' => e = .returned (.agg (hc C)) ∧ Below w.heap.size w w'))
    (TO1 : Hid (∀ W, Calls Tryz.prog 22 #[.agg #[.int .i64 3, .int .i64 0, .int .i64 (d : Int), .int .i64 0, .int .i64 0, .int .i64 n, .int .i64 0, .bool false], .slice none 0 0] W fun e w' => ∃ gc gt h1 h2 F1 F2, e = .returned (.tuple #[.pointer (some ⟨gc, 0, none⟩), .agg #[.pointer (some ⟨h1, 0, none⟩), .pointer (some ⟨h2, 0, none⟩)], .bool true]) ∧ DK W w' h1 h2 2147483648 1 (wr (cm 1 (fun _ => (0, 0)) 0) 0 4 u1) (wr (cm 1 (fun _ => (0, 0)) 0) 0 4 u1) F1 F2 ((gc, ccg h1 (.pointer (some ⟨gt, 0, none⟩)) 0 0 0 0 (.map none), TC) :: [])))
    (TO2 : Hid (∀ W, Calls Tryz.prog 22 #[.agg #[.int .i64 5, .int .i64 f, .int .i64 0, .int .i64 5, .int .i64 6, .int .i64 n, .int .i64 0, .bool false], .slice none 0 0] W fun e w' => ∃ gc gt h1 h2 F1 F2, e = .returned (.tuple #[.pointer (some ⟨gc, 0, none⟩), .agg #[.pointer (some ⟨h1, 0, none⟩), .pointer (some ⟨h2, 0, none⟩)], .bool true]) ∧ DK W w' h1 h2 2147483648 1 (wr (cm 1 (fun _ => (0, 0)) 0) 0 4 u2) (wr (cm 1 (fun _ => (0, 0)) 0) 0 4 u2) F1 F2 ((gc, ccg h1 (.pointer (some ⟨gt, 0, none⟩)) 0 0 0 0 (.map none), TC) :: [])))
    (TO3 : Hid (∀ W, Calls Tryz.prog 22 #[.agg #[.int .i64 5, .int .i64 f2, .int .i64 0, .int .i64 5, .int .i64 6, .int .i64 n, .int .i64 0, .bool false], .slice none 0 0] W fun e w' => ∃ gc gt h1 h2 F1 F2, e = .returned (.tuple #[.pointer (some ⟨gc, 0, none⟩), .agg #[.pointer (some ⟨h1, 0, none⟩), .pointer (some ⟨h2, 0, none⟩)], .bool true]) ∧ DK W w' h1 h2 2147483648 1 (wr (cm 1 (fun _ => (0, 0)) 0) 0 4 u3) (wr (cm 1 (fun _ => (0, 0)) 0) 0 4 u3) F1 F2 ((gc, ccg h1 (.pointer (some ⟨gt, 0, none⟩)) 0 0 0 0 (.map none), TC) :: [])))
    (TS1 : Hid (∀ (X : World) (gc gm : Nat) (tv : Value) (m0 : Nat → Int) (F : Nat → Prop), Kor X gc gm tv 0 2147483648 1 (wr m0 0 4 u1) F → Calls Tryz.prog 23 #[.pointer (some ⟨gc, 0, none⟩), .agg (hc C), .int .u64 0] X fun e w' => e = .returned (.tuple #[.agg (hc H1), .agg #[.int .i64 0, .int .i64 0, .int .u64 0, .int .u64 0, .bool false, .bool false]]) ∧ ∃ F', Kor w' gc gm tv 0 2147483648 1 (wr m0 0 4 u1) F' ∧ Mod (fun k => k = gc ∨ F k) X w' ∧ ∀ k, F' k → F k ∨ X.heap.size ≤ k))
    (TS2 : Hid (∀ (X : World) (gc gm : Nat) (tv : Value) (m0 : Nat → Int) (F : Nat → Prop), Kor X gc gm tv 0 2147483648 1 (wr m0 0 4 u2) F → Calls Tryz.prog 23 #[.pointer (some ⟨gc, 0, none⟩), .agg (hc { C with x := xup (xup C.x 5 a) 6 b }), .int .u64 0] X fun e w' => e = .returned (.tuple #[.agg (hc H2), .agg #[.int .i64 0, .int .i64 0, .int .u64 0, .int .u64 0, .bool false, .bool false]]) ∧ ∃ F', Kor w' gc gm tv 0 2147483648 1 (wr m0 0 4 u2) F' ∧ Mod (fun k => k = gc ∨ F k) X w' ∧ ∀ k, F' k → F k ∨ X.heap.size ≤ k))
    (TS3 : Hid (∀ (X : World) (gc gm : Nat) (tv : Value) (m0 : Nat → Int) (F : Nat → Prop), Kor X gc gm tv 0 2147483648 1 (wr m0 0 4 u3) F → Calls Tryz.prog 23 #[.pointer (some ⟨gc, 0, none⟩), .agg (hc { C with x := xup (xup C.x 5 a) 6 b }), .int .u64 0] X fun e w' => e = .returned (.tuple #[.agg (hc H3), .agg #[.int .i64 0, .int .i64 0, .int .u64 0, .int .u64 0, .bool false, .bool false]]) ∧ ∃ F', Kor w' gc gm tv 0 2147483648 1 (wr m0 0 4 u3) F' ∧ Mod (fun k => k = gc ∨ F k) X w' ∧ ∀ k, F' k → F k ∨ X.heap.size ≤ k))
    (c32 : (hc C)[32]? = some (.int .u64 2147483648)) (d32 : (hc { C with x := xup (xup C.x 5 a) 6 b })[32]? = some (.int .u64 2147483648)) (s32 : (hc H1)[32]? = some (.int .u64 th)) (sd : (hc H1)[d]? = some (.int .u64 2147483652)) (y32 : (hc H2)[32]? = some (.int .u64 t2)) (z32 : (hc H3)[32]? = some (.int .u64 t3)) (e1 : t2 = th) (e2 : t3 = 2147483652)
    (rx1 : Row (hc H2) 0 (xa (xup (xup C.x 5 a) 6 b))) (rx2 : Row (hc { C with x := xup (xup C.x 5 a) 6 b }) 0 (xa (xup (xup C.x 5 a) 6 b))) (W : World) :
    Calls Tryz.prog 7 #[.agg (hc h), .int .i64 rd, .int .i64 im, .int .i64 fi, .int .u64 a, .int .u64 b] W fun e w' => e = .returned (.bool true) ∧ Below W.heap.size W w' := by
  have hni : (d : Int) < 32 := by omega
  subst e1
  subst e2
  all_goals (
    go_enter Tryz.func7, Tryz.ntmps7
    have ST := Lib.hid (Kn.nil (S := Step.Nil) (W := W))
    go_wp2_with (first
      | ((with_reducible refine Step.gate_box (t := 25) rfl ?_); refine Step.fresh (cs := hc h) (T := 25) rfl ?hr ?_; (case hr => first | (go_simp; done) | (go_simp; rfl)); intro g6 w1 b hg hb; replace ST := Lib.hid (ST.out.made b hg hb); clear b hb; clear hg)
      | ((with_reducible refine Step.gate_load (t := 25) rfl ?_); refine Step.loadAll ST.out.at0 rfl rfl rfl Tryz.underlying25 rfl (size_hart _) ?_)
      | (go_at_call 24; (with_reducible refine (TC0.out _).mono ?_); rintro e w' ⟨rfl, hb⟩; replace ST := Lib.hid (ST.out.call hb); clear hb)
      | ((with_reducible refine Step.gate_store (t := 25) rfl ?_); refine Step.storeAll ST.out.at0 rfl rfl rfl rfl rfl (size_hart _) rfl (hc_all _) ?_; intro w3 nb m; replace ST := Lib.hid (ST.out.set0 nb m); clear nb m)
      | (go_at_call 25; (with_reducible refine (TP1.out _).mono ?_); rintro e w' ⟨rfl, rfl⟩)
      | (go_at_call 25; (with_reducible refine (TP2.out _).mono ?_); rintro e w' ⟨rfl, rfl⟩)
      | (go_at_call 25; (with_reducible refine (TP3.out _).mono ?_); rintro e w' ⟨rfl, rfl⟩)
      | (go_at_call 22; (with_reducible refine (TO1.out _).mono ?_); rintro e w9 ⟨gc, gt, h1, h2, F1, F2, rfl, d1⟩; replace ST := Lib.hid (DK.join1 ST.out d1); clear d1)
      | (go_at_call 22; (with_reducible refine (TO2.out _).mono ?_); rintro e w9 ⟨gc2, gt2, k1, k2, E1, E2, rfl, d1⟩; replace ST := Lib.hid (DK.join1 (ST.out.kn.sub (List.Sublist.cons _ (List.Sublist.cons _ (List.Sublist.cons _ (List.Sublist.refl _))))) d1); clear d1)
      | (go_at_call 22; (with_reducible refine (TO3.out _).mono ?_); rintro e w9 ⟨gc3, gt3, k3, k4, E3, E4, rfl, d1⟩; replace ST := Lib.hid (DK.pair1 ST.out d1); clear d1)
      | ((with_reducible refine Step.gate_alloc (t := 40) rfl ?_); refine Step.freshAlloc rfl rfl (Duo.alloc_agg Duo.zero_two) ?_; intro g16 w2' bq hg hb; replace ST := Lib.hid (ST.out.made bq hg hb); clear bq hb hg)
      | ((with_reducible refine Step.gate_store (t := 40) rfl ?_); refine Step.storeAll (vs := #[_, _]) ST.out.kn.at0 rfl rfl rfl rfl rfl size_two rfl rfl ?_; intro w3 nb m; replace ST := Lib.hid (ST.out.set (ST.out.kn.set0 nb m) m ⟨_, List.mem_of_getElem? (i := 0) rfl, rfl⟩ rfl); clear nb m)
      | ((with_reducible refine Step.gate_load (t := 25) rfl ?_); refine Step.loadAll ST.out.kn.at1 rfl rfl rfl Tryz.underlying25 rfl (size_hart _) ?_)
      | ((with_reducible refine Step.gate_load (t := 25) rfl ?_); refine Step.loadAll ST.out.kn.at2 rfl rfl rfl Tryz.underlying25 rfl (size_hart _) ?_)
      | ((with_reducible refine Step.gate_load (t := 25) rfl ?_); refine Step.loadAll ST.out.kn.at3 rfl rfl rfl Tryz.underlying25 rfl (size_hart _) ?_)
      | ((with_reducible refine Step.gate_load (t := 25) rfl ?_); refine Step.loadAll ST.out.kn.at4 rfl rfl rfl Tryz.underlying25 rfl (size_hart _) ?_)
      | (go_at_call 23; (with_reducible refine (TS1.out _ _ _ _ _ _ (DK.core1 ST.out)).mono ?_); rintro e w10 ⟨rfl, F3, hk, m, hF⟩; replace ST := Lib.hid (DK.step1 ST.out hk m hF); clear hk m hF)
      | (go_at_call 23; (with_reducible refine (TS2.out _ _ _ _ _ _ (DR.core (DR.perm ST.out (perm3 _ _ _ _)))).mono ?_); rintro e w10 ⟨rfl, F5, hk, m, hF⟩; replace ST := Lib.hid (DR.step (DR.perm ST.out (perm3 _ _ _ _)) hk m hF); clear hk m hF)
      | (go_at_call 23; (with_reducible refine (TS3.out _ _ _ _ _ _ (DR.core (DR.perm (DR.flip ST.out) (perm4 _ _ _ _ _)))).mono ?_); rintro e w10 ⟨rfl, F6, hk, m, hF⟩; replace ST := Lib.hid (DR.step (DR.perm (DR.flip ST.out) (perm4 _ _ _ _ _)) hk m hF); clear hk m hF)
      | ((with_reducible refine Step.gate_alloc (t := 25) rfl ?_); refine Step.freshAlloc rfl rfl (alloc_agg zero_hart) ?_; intro g18 w2' bq hg hb; replace ST := Lib.hid (ST.out.made bq hg hb); clear bq hb hg)
      | ((with_reducible refine Step.gate_alloc (t := 46) rfl ?_); refine Step.freshAlloc rfl rfl (alloc_agg zero_ev) ?_; intro g19 w2' bq hg hb; replace ST := Lib.hid (ST.out.made bq hg hb); clear bq hb hg)
      | ((with_reducible refine Step.gate_store (t := 25) rfl ?_); refine Step.storeAll ST.out.kn.at1 rfl rfl rfl rfl rfl (size_hart _) rfl (hc_all _) ?_; intro w3 nb m; replace ST := Lib.hid (ST.out.set (ST.out.kn.set1 nb m) m ⟨_, List.mem_of_getElem? (i := 1) rfl, rfl⟩ rfl); clear nb m)
      | ((with_reducible refine Step.gate_store (t := 46) rfl ?_); refine Step.storeAll (vs := #[.int .i64 0, .int .i64 0, .int .u64 0, .int .u64 0, .bool false, .bool false]) ST.out.kn.at0 rfl rfl rfl rfl rfl size_ev rfl rfl ?_; intro w3 nb m; replace ST := Lib.hid (ST.out.set (ST.out.kn.set0 nb m) m ⟨_, List.mem_of_getElem? (i := 0) rfl, rfl⟩ rfl); clear nb m)
      | ((with_reducible refine Sq.region (id := 8) (I := fun X => DK W X h1 h2 2147483648 1 (wr (cm 1 (fun _ => (0, 0)) 0) 0 4 u1) (wr (cm 1 (fun _ => (0, 0)) 0) 0 4 u1) F3 F2 [(g19, #[.int .i64 0, .int .i64 0, .int .u64 0, .int .u64 0, .bool false, .bool false], 46), (g18, hc H1, 25), (g16, #[.pointer (some ⟨h1, 0, none⟩), .pointer (some ⟨h2, 0, none⟩)], 40), (g6, hc C, 25)]) ?hm 23 ST.out.drewd ?hp ?hs); (case hm => rfl); (case hp => kernel_rfl); intro ops K hops hK; dsimp only [List.take]; (repeat (first | (refine Sq.seq_move rfl rfl ?_; simp only [Act.put, Act.eval, Array.getD_eq_getD_getElem?, List.getElem?_toArray, List.getElem?_cons_zero, List.getElem?_cons_succ, Option.getD_some, List.setIfInBounds_toArray, List.set_cons_zero, List.set_cons_succ]) | (refine Sq.seq_row (t := 46) (fun X hX => (DK.kn hX).at0) (Sq.wanted_none rfl) rfl rfl (Sq.row_all _) Tryz.underlying46 rfl size_ev ?_; simp only [Act.put, Act.eval, Array.getD_eq_getD_getElem?, List.getElem?_toArray, List.getElem?_cons_zero, List.getElem?_cons_succ, Option.getD_some, List.setIfInBounds_toArray, List.set_cons_zero, List.set_cons_succ]) | (refine Sq.seq_load (t := 22) (fun X hX => (DK.kn hX).at1) (by rw [hops]; rfl) rfl rfl pl_u64 s32 ?_; simp only [Act.put, Act.eval, Array.getD_eq_getD_getElem?, List.getElem?_toArray, List.getElem?_cons_zero, List.getElem?_cons_succ, Option.getD_some, List.setIfInBounds_toArray, List.set_cons_zero, List.set_cons_succ]) | (refine Sq.seq_load (t := 22) (fun X hX => (DK.kn hX).at3) (by rw [hops]; rfl) rfl rfl pl_u64 c32 ?_; simp only [Act.put, Act.eval, Array.getD_eq_getD_getElem?, List.getElem?_toArray, List.getElem?_cons_zero, List.getElem?_cons_succ, Option.getD_some, List.setIfInBounds_toArray, List.set_cons_zero, List.set_cons_succ]) | (refine Sq.seq_load (t := 22) (fun X hX => (DK.kn hX).at1) (by rw [hops]; rfl) rfl rfl pl_u64 sd ?_; simp only [Act.put, Act.eval, Array.getD_eq_getD_getElem?, List.getElem?_toArray, List.getElem?_cons_zero, List.getElem?_cons_succ, Option.getD_some, List.setIfInBounds_toArray, List.set_cons_zero, List.set_cons_succ]) | (refine' Sq.seq_pure rfl (fun X => _) _; rotate_left; (first | (go_simp; done) | (go_simp; rfl) | (go_simp; rw [if_pos hni])); simp only [Act.put, Act.eval, Array.getD_eq_getD_getElem?, List.getElem?_toArray, List.getElem?_cons_zero, List.getElem?_cons_succ, Option.getD_some, List.setIfInBounds_toArray, List.set_cons_zero, List.set_cons_succ, eth]) | (refine' Sq.seq_pure_g (by rw [hops]; rfl) (fun X => _) _; rotate_left; (first | (go_simp; done) | (go_simp; rfl) | (go_simp; rw [if_pos hni])); simp only [Act.put, Act.eval, Array.getD_eq_getD_getElem?, List.getElem?_toArray, List.getElem?_cons_zero, List.getElem?_cons_succ, Option.getD_some, List.setIfInBounds_toArray, List.set_cons_zero, List.set_cons_succ, eth]))); refine Sq.seq_nil ?_; clear hops; refine hK.out _ fun w1 hk => ?_; clear hK; replace ST := Lib.hid hk; clear hk; dsimp only [List.drop])
      | ((with_reducible refine Step.gate_store (t := 22) rfl ?_); refine Step.store ST.out.kn.at3 rfl rfl rfl rfl rfl pl_u64 rfl rfl ?_; intro w3 nb m; simp [go_sem, set_x5, set_x6] at nb; replace ST := Lib.hid (ST.out.set (ST.out.kn.set3 nb m) m ⟨_, List.mem_of_getElem? (i := 3) rfl, rfl⟩ rfl); clear nb m)
      | ((with_reducible refine Step.gate_load (t := 22) rfl ?_); refine Step.loadG ST.out.kn.at5 rfl rfl rfl pl_u64 d32 ?_)
      | ((with_reducible refine Step.gate_load (t := 22) rfl ?_); refine Step.loadG ST.out.kn.at3 rfl rfl rfl pl_u64 y32 ?_)
      | ((with_reducible refine Step.gate_load (t := 22) rfl ?_); refine Step.loadG ST.out.kn.at1 rfl rfl rfl pl_u64 z32 ?_)
      | ((with_reducible refine Step.gate_load (t := 23) rfl ?_); refine loadMidW ST.out.kn.at3 rfl rfl rfl rx1 Tryz.underlying23 rfl (size_arr _) ?_)
      | ((with_reducible refine Step.gate_load (t := 23) rfl ?_); refine loadMidW ST.out.kn.at5 rfl rfl rfl rx2 Tryz.underlying23 rfl (size_arr _) ?_)
      | ((with_reducible refine gate_bin (t := 23) rfl ?_); refine valueW (v := .bool true) rfl (eql_arr rfl rfl rfl _) ?_)
      | (go_at_call 15; (with_reducible refine (awake_any _).mono ?_); rintro e w' ⟨rfl, hb⟩; replace ST := Lib.hid (ST.out.call hb); clear hb))
    all_goals go_ret
    all_goals exact ⟨rfl, ST.out.below⟩)
set_option maxHeartbeats 8000000 in
theorem link_b (h C H1 H2 H3 : Hrt) (rd im fi a b p q r n th t2 t3 f f2 u1 u2 u3 : Int) (d : Nat) (hd : d < 32) (hp : IntKind.i64.wrap (p + 1) = (d : Int)) (hq1 : IntKind.i64.wrap (2 * q) = 2 * q) (hq2 : IntKind.i64.wrap (2 * q - 2048) = n) (hr1 : IntKind.i64.wrap (2 * r) = 2 * r) (hr2 : IntKind.i64.wrap (1 + 2 * r) = f) (hr2w : wrap64 (1 + 2 * r) = f) (hr3 : IntKind.i64.wrap (f + 1) = f2) (eth : IntKind.u64.wrap (2147483648 + IntKind.u64.wrap n) = th)
    (TP1 : Hid (∀ w, Calls Tryz.prog 25 #[.int .i64 rd, .int .i64 31] w fun e w' => e = .returned (.int .i64 p) ∧ w = w')) (TP2 : Hid (∀ w, Calls Tryz.prog 25 #[.int .i64 im, .int .i64 2048] w fun e w' => e = .returned (.int .i64 q) ∧ w = w')) (TP3 : Hid (∀ w, Calls Tryz.prog 25 #[.int .i64 fi, .int .i64 3] w fun e w' => e = .returned (.int .i64 r) ∧ w = w'))
    (TC0 : Hid (∀ w, Calls Tryz.prog 24 #[.agg (hc h)] w fun e w' => e = .returned (.agg (hc C)) ∧ Below w.heap.size w w'))
    (TO1 : Hid (∀ W, Calls Tryz.prog 22 #[.agg #[.int .i64 3, .int .i64 0, .int .i64 (d : Int), .int .i64 0, .int .i64 0, .int .i64 n, .int .i64 0, .bool false], .slice none 0 0] W fun e w' => ∃ gc gt h1 h2 F1 F2, e = .returned (.tuple #[.pointer (some ⟨gc, 0, none⟩), .agg #[.pointer (some ⟨h1, 0, none⟩), .pointer (some ⟨h2, 0, none⟩)], .bool true]) ∧ DK W w' h1 h2 2147483648 1 (wr (cm 1 (fun _ => (0, 0)) 0) 0 4 u1) (wr (cm 1 (fun _ => (0, 0)) 0) 0 4 u1) F1 F2 ((gc, ccg h1 (.pointer (some ⟨gt, 0, none⟩)) 0 0 0 0 (.map none), TC) :: [])))
    (TO2 : Hid (∀ W, Calls Tryz.prog 22 #[.agg #[.int .i64 5, .int .i64 f, .int .i64 0, .int .i64 5, .int .i64 6, .int .i64 n, .int .i64 0, .bool false], .slice none 0 0] W fun e w' => ∃ gc gt h1 h2 F1 F2, e = .returned (.tuple #[.pointer (some ⟨gc, 0, none⟩), .agg #[.pointer (some ⟨h1, 0, none⟩), .pointer (some ⟨h2, 0, none⟩)], .bool true]) ∧ DK W w' h1 h2 2147483648 1 (wr (cm 1 (fun _ => (0, 0)) 0) 0 4 u2) (wr (cm 1 (fun _ => (0, 0)) 0) 0 4 u2) F1 F2 ((gc, ccg h1 (.pointer (some ⟨gt, 0, none⟩)) 0 0 0 0 (.map none), TC) :: [])))
    (TO3 : Hid (∀ W, Calls Tryz.prog 22 #[.agg #[.int .i64 5, .int .i64 f2, .int .i64 0, .int .i64 5, .int .i64 6, .int .i64 n, .int .i64 0, .bool false], .slice none 0 0] W fun e w' => ∃ gc gt h1 h2 F1 F2, e = .returned (.tuple #[.pointer (some ⟨gc, 0, none⟩), .agg #[.pointer (some ⟨h1, 0, none⟩), .pointer (some ⟨h2, 0, none⟩)], .bool true]) ∧ DK W w' h1 h2 2147483648 1 (wr (cm 1 (fun _ => (0, 0)) 0) 0 4 u3) (wr (cm 1 (fun _ => (0, 0)) 0) 0 4 u3) F1 F2 ((gc, ccg h1 (.pointer (some ⟨gt, 0, none⟩)) 0 0 0 0 (.map none), TC) :: [])))
    (TS1 : Hid (∀ (X : World) (gc gm : Nat) (tv : Value) (m0 : Nat → Int) (F : Nat → Prop), Kor X gc gm tv 0 2147483648 1 (wr m0 0 4 u1) F → Calls Tryz.prog 23 #[.pointer (some ⟨gc, 0, none⟩), .agg (hc C), .int .u64 0] X fun e w' => e = .returned (.tuple #[.agg (hc H1), .agg #[.int .i64 0, .int .i64 0, .int .u64 0, .int .u64 0, .bool false, .bool false]]) ∧ ∃ F', Kor w' gc gm tv 0 2147483648 1 (wr m0 0 4 u1) F' ∧ Mod (fun k => k = gc ∨ F k) X w' ∧ ∀ k, F' k → F k ∨ X.heap.size ≤ k))
    (TS2 : Hid (∀ (X : World) (gc gm : Nat) (tv : Value) (m0 : Nat → Int) (F : Nat → Prop), Kor X gc gm tv 0 2147483648 1 (wr m0 0 4 u2) F → Calls Tryz.prog 23 #[.pointer (some ⟨gc, 0, none⟩), .agg (hc { C with x := xup (xup C.x 5 a) 6 b }), .int .u64 0] X fun e w' => e = .returned (.tuple #[.agg (hc H2), .agg #[.int .i64 0, .int .i64 0, .int .u64 0, .int .u64 0, .bool false, .bool false]]) ∧ ∃ F', Kor w' gc gm tv 0 2147483648 1 (wr m0 0 4 u2) F' ∧ Mod (fun k => k = gc ∨ F k) X w' ∧ ∀ k, F' k → F k ∨ X.heap.size ≤ k))
    (TS3 : Hid (∀ (X : World) (gc gm : Nat) (tv : Value) (m0 : Nat → Int) (F : Nat → Prop), Kor X gc gm tv 0 2147483648 1 (wr m0 0 4 u3) F → Calls Tryz.prog 23 #[.pointer (some ⟨gc, 0, none⟩), .agg (hc { C with x := xup (xup C.x 5 a) 6 b }), .int .u64 0] X fun e w' => e = .returned (.tuple #[.agg (hc H3), .agg #[.int .i64 0, .int .i64 0, .int .u64 0, .int .u64 0, .bool false, .bool false]]) ∧ ∃ F', Kor w' gc gm tv 0 2147483648 1 (wr m0 0 4 u3) F' ∧ Mod (fun k => k = gc ∨ F k) X w' ∧ ∀ k, F' k → F k ∨ X.heap.size ≤ k))
    (c32 : (hc C)[32]? = some (.int .u64 2147483648)) (d32 : (hc { C with x := xup (xup C.x 5 a) 6 b })[32]? = some (.int .u64 2147483648)) (s32 : (hc H1)[32]? = some (.int .u64 th)) (sd : (hc H1)[d]? = some (.int .u64 2147483652)) (y32 : (hc H2)[32]? = some (.int .u64 t2)) (z32 : (hc H3)[32]? = some (.int .u64 t3)) (e1 : t2 = 2147483652) (e2 : t3 = th) (hne : ((2147483652 : Int) == th) = false)
    (rx1 : Row (hc H2) 0 (xa (xup (xup C.x 5 a) 6 b))) (rx2 : Row (hc { C with x := xup (xup C.x 5 a) 6 b }) 0 (xa (xup (xup C.x 5 a) 6 b))) (W : World) :
    Calls Tryz.prog 7 #[.agg (hc h), .int .i64 rd, .int .i64 im, .int .i64 fi, .int .u64 a, .int .u64 b] W fun e w' => e = .returned (.bool true) ∧ Below W.heap.size W w' := by
  have hni : (d : Int) < 32 := by omega
  subst e1
  subst e2
  all_goals (
    go_enter Tryz.func7, Tryz.ntmps7
    have ST := Lib.hid (Kn.nil (S := Step.Nil) (W := W))
    go_wp2_with (first
      | ((with_reducible refine Step.gate_box (t := 25) rfl ?_); refine Step.fresh (cs := hc h) (T := 25) rfl ?hr ?_; (case hr => first | (go_simp; done) | (go_simp; rfl)); intro g6 w1 b hg hb; replace ST := Lib.hid (ST.out.made b hg hb); clear b hb; clear hg)
      | ((with_reducible refine Step.gate_load (t := 25) rfl ?_); refine Step.loadAll ST.out.at0 rfl rfl rfl Tryz.underlying25 rfl (size_hart _) ?_)
      | (go_at_call 24; (with_reducible refine (TC0.out _).mono ?_); rintro e w' ⟨rfl, hb⟩; replace ST := Lib.hid (ST.out.call hb); clear hb)
      | ((with_reducible refine Step.gate_store (t := 25) rfl ?_); refine Step.storeAll ST.out.at0 rfl rfl rfl rfl rfl (size_hart _) rfl (hc_all _) ?_; intro w3 nb m; replace ST := Lib.hid (ST.out.set0 nb m); clear nb m)
      | (go_at_call 25; (with_reducible refine (TP1.out _).mono ?_); rintro e w' ⟨rfl, rfl⟩)
      | (go_at_call 25; (with_reducible refine (TP2.out _).mono ?_); rintro e w' ⟨rfl, rfl⟩)
      | (go_at_call 25; (with_reducible refine (TP3.out _).mono ?_); rintro e w' ⟨rfl, rfl⟩)
      | (go_at_call 22; (with_reducible refine (TO1.out _).mono ?_); rintro e w9 ⟨gc, gt, h1, h2, F1, F2, rfl, d1⟩; replace ST := Lib.hid (DK.join1 ST.out d1); clear d1)
      | (go_at_call 22; (with_reducible refine (TO2.out _).mono ?_); rintro e w9 ⟨gc2, gt2, k1, k2, E1, E2, rfl, d1⟩; replace ST := Lib.hid (DK.join1 (ST.out.kn.sub (List.Sublist.cons _ (List.Sublist.cons _ (List.Sublist.cons _ (List.Sublist.refl _))))) d1); clear d1)
      | (go_at_call 22; (with_reducible refine (TO3.out _).mono ?_); rintro e w9 ⟨gc3, gt3, k3, k4, E3, E4, rfl, d1⟩; replace ST := Lib.hid (DK.pair1 ST.out d1); clear d1)
      | ((with_reducible refine Step.gate_alloc (t := 40) rfl ?_); refine Step.freshAlloc rfl rfl (Duo.alloc_agg Duo.zero_two) ?_; intro g16 w2' bq hg hb; replace ST := Lib.hid (ST.out.made bq hg hb); clear bq hb hg)
      | ((with_reducible refine Step.gate_store (t := 40) rfl ?_); refine Step.storeAll (vs := #[_, _]) ST.out.kn.at0 rfl rfl rfl rfl rfl size_two rfl rfl ?_; intro w3 nb m; replace ST := Lib.hid (ST.out.set (ST.out.kn.set0 nb m) m ⟨_, List.mem_of_getElem? (i := 0) rfl, rfl⟩ rfl); clear nb m)
      | ((with_reducible refine Step.gate_load (t := 25) rfl ?_); refine Step.loadAll ST.out.kn.at1 rfl rfl rfl Tryz.underlying25 rfl (size_hart _) ?_)
      | ((with_reducible refine Step.gate_load (t := 25) rfl ?_); refine Step.loadAll ST.out.kn.at2 rfl rfl rfl Tryz.underlying25 rfl (size_hart _) ?_)
      | ((with_reducible refine Step.gate_load (t := 25) rfl ?_); refine Step.loadAll ST.out.kn.at3 rfl rfl rfl Tryz.underlying25 rfl (size_hart _) ?_)
      | ((with_reducible refine Step.gate_load (t := 25) rfl ?_); refine Step.loadAll ST.out.kn.at4 rfl rfl rfl Tryz.underlying25 rfl (size_hart _) ?_)
      | (go_at_call 23; (with_reducible refine (TS1.out _ _ _ _ _ _ (DK.core1 ST.out)).mono ?_); rintro e w10 ⟨rfl, F3, hk, m, hF⟩; replace ST := Lib.hid (DK.step1 ST.out hk m hF); clear hk m hF)
      | (go_at_call 23; (with_reducible refine (TS2.out _ _ _ _ _ _ (DR.core (DR.perm ST.out (perm3 _ _ _ _)))).mono ?_); rintro e w10 ⟨rfl, F5, hk, m, hF⟩; replace ST := Lib.hid (DR.step (DR.perm ST.out (perm3 _ _ _ _)) hk m hF); clear hk m hF)
      | (go_at_call 23; (with_reducible refine (TS3.out _ _ _ _ _ _ (DR.core (DR.perm (DR.flip ST.out) (perm4 _ _ _ _ _)))).mono ?_); rintro e w10 ⟨rfl, F6, hk, m, hF⟩; replace ST := Lib.hid (DR.step (DR.perm (DR.flip ST.out) (perm4 _ _ _ _ _)) hk m hF); clear hk m hF)
      | ((with_reducible refine Step.gate_alloc (t := 25) rfl ?_); refine Step.freshAlloc rfl rfl (alloc_agg zero_hart) ?_; intro g18 w2' bq hg hb; replace ST := Lib.hid (ST.out.made bq hg hb); clear bq hb hg)
      | ((with_reducible refine Step.gate_alloc (t := 46) rfl ?_); refine Step.freshAlloc rfl rfl (alloc_agg zero_ev) ?_; intro g19 w2' bq hg hb; replace ST := Lib.hid (ST.out.made bq hg hb); clear bq hb hg)
      | ((with_reducible refine Step.gate_store (t := 25) rfl ?_); refine Step.storeAll ST.out.kn.at1 rfl rfl rfl rfl rfl (size_hart _) rfl (hc_all _) ?_; intro w3 nb m; replace ST := Lib.hid (ST.out.set (ST.out.kn.set1 nb m) m ⟨_, List.mem_of_getElem? (i := 1) rfl, rfl⟩ rfl); clear nb m)
      | ((with_reducible refine Step.gate_store (t := 46) rfl ?_); refine Step.storeAll (vs := #[.int .i64 0, .int .i64 0, .int .u64 0, .int .u64 0, .bool false, .bool false]) ST.out.kn.at0 rfl rfl rfl rfl rfl size_ev rfl rfl ?_; intro w3 nb m; replace ST := Lib.hid (ST.out.set (ST.out.kn.set0 nb m) m ⟨_, List.mem_of_getElem? (i := 0) rfl, rfl⟩ rfl); clear nb m)
      | ((with_reducible refine Sq.region (id := 8) (I := fun X => DK W X h1 h2 2147483648 1 (wr (cm 1 (fun _ => (0, 0)) 0) 0 4 u1) (wr (cm 1 (fun _ => (0, 0)) 0) 0 4 u1) F3 F2 [(g19, #[.int .i64 0, .int .i64 0, .int .u64 0, .int .u64 0, .bool false, .bool false], 46), (g18, hc H1, 25), (g16, #[.pointer (some ⟨h1, 0, none⟩), .pointer (some ⟨h2, 0, none⟩)], 40), (g6, hc C, 25)]) ?hm 23 ST.out.drewd ?hp ?hs); (case hm => rfl); (case hp => kernel_rfl); intro ops K hops hK; dsimp only [List.take]; (repeat (first | (refine Sq.seq_move rfl rfl ?_; simp only [Act.put, Act.eval, Array.getD_eq_getD_getElem?, List.getElem?_toArray, List.getElem?_cons_zero, List.getElem?_cons_succ, Option.getD_some, List.setIfInBounds_toArray, List.set_cons_zero, List.set_cons_succ]) | (refine Sq.seq_row (t := 46) (fun X hX => (DK.kn hX).at0) (Sq.wanted_none rfl) rfl rfl (Sq.row_all _) Tryz.underlying46 rfl size_ev ?_; simp only [Act.put, Act.eval, Array.getD_eq_getD_getElem?, List.getElem?_toArray, List.getElem?_cons_zero, List.getElem?_cons_succ, Option.getD_some, List.setIfInBounds_toArray, List.set_cons_zero, List.set_cons_succ]) | (refine Sq.seq_load (t := 22) (fun X hX => (DK.kn hX).at1) (by rw [hops]; rfl) rfl rfl pl_u64 s32 ?_; simp only [Act.put, Act.eval, Array.getD_eq_getD_getElem?, List.getElem?_toArray, List.getElem?_cons_zero, List.getElem?_cons_succ, Option.getD_some, List.setIfInBounds_toArray, List.set_cons_zero, List.set_cons_succ]) | (refine Sq.seq_load (t := 22) (fun X hX => (DK.kn hX).at3) (by rw [hops]; rfl) rfl rfl pl_u64 c32 ?_; simp only [Act.put, Act.eval, Array.getD_eq_getD_getElem?, List.getElem?_toArray, List.getElem?_cons_zero, List.getElem?_cons_succ, Option.getD_some, List.setIfInBounds_toArray, List.set_cons_zero, List.set_cons_succ]) | (refine Sq.seq_load (t := 22) (fun X hX => (DK.kn hX).at1) (by rw [hops]; rfl) rfl rfl pl_u64 sd ?_; simp only [Act.put, Act.eval, Array.getD_eq_getD_getElem?, List.getElem?_toArray, List.getElem?_cons_zero, List.getElem?_cons_succ, Option.getD_some, List.setIfInBounds_toArray, List.set_cons_zero, List.set_cons_succ]) | (refine' Sq.seq_pure rfl (fun X => _) _; rotate_left; (first | (go_simp; done) | (go_simp; rfl) | (go_simp; rw [if_pos hni])); simp only [Act.put, Act.eval, Array.getD_eq_getD_getElem?, List.getElem?_toArray, List.getElem?_cons_zero, List.getElem?_cons_succ, Option.getD_some, List.setIfInBounds_toArray, List.set_cons_zero, List.set_cons_succ, eth]) | (refine' Sq.seq_pure_g (by rw [hops]; rfl) (fun X => _) _; rotate_left; (first | (go_simp; done) | (go_simp; rfl) | (go_simp; rw [if_pos hni])); simp only [Act.put, Act.eval, Array.getD_eq_getD_getElem?, List.getElem?_toArray, List.getElem?_cons_zero, List.getElem?_cons_succ, Option.getD_some, List.setIfInBounds_toArray, List.set_cons_zero, List.set_cons_succ, eth]))); refine Sq.seq_nil ?_; clear hops; refine hK.out _ fun w1 hk => ?_; clear hK; replace ST := Lib.hid hk; clear hk; dsimp only [List.drop])
      | ((with_reducible refine Step.gate_store (t := 22) rfl ?_); refine Step.store ST.out.kn.at3 rfl rfl rfl rfl rfl pl_u64 rfl rfl ?_; intro w3 nb m; simp [go_sem, set_x5, set_x6] at nb; replace ST := Lib.hid (ST.out.set (ST.out.kn.set3 nb m) m ⟨_, List.mem_of_getElem? (i := 3) rfl, rfl⟩ rfl); clear nb m)
      | ((with_reducible refine Step.gate_load (t := 22) rfl ?_); refine Step.loadG ST.out.kn.at5 rfl rfl rfl pl_u64 d32 ?_)
      | ((with_reducible refine Step.gate_load (t := 22) rfl ?_); refine Step.loadG ST.out.kn.at3 rfl rfl rfl pl_u64 y32 ?_)
      | ((with_reducible refine Step.gate_load (t := 22) rfl ?_); refine Step.loadG ST.out.kn.at1 rfl rfl rfl pl_u64 z32 ?_)
      | ((with_reducible refine Step.gate_load (t := 23) rfl ?_); refine loadMidW ST.out.kn.at3 rfl rfl rfl rx1 Tryz.underlying23 rfl (size_arr _) ?_)
      | ((with_reducible refine Step.gate_load (t := 23) rfl ?_); refine loadMidW ST.out.kn.at5 rfl rfl rfl rx2 Tryz.underlying23 rfl (size_arr _) ?_)
      | ((with_reducible refine gate_bin (t := 23) rfl ?_); refine valueW (v := .bool true) rfl (eql_arr rfl rfl rfl _) ?_)
      | (go_at_call 15; (with_reducible refine (awake_any _).mono ?_); rintro e w' ⟨rfl, hb⟩; replace ST := Lib.hid (ST.out.call hb); clear hb))
    all_goals go_ret
    all_goals exact ⟨rfl, ST.out.below⟩)
theorem links_fit {h : Hrt} (hf : Fit h) {a b : Int} (ha : U64 a) (hb : U64 b) : Fit { calmH h with x := xup (xup (calmH h).x 5 a) 6 b } := by
  have F0 := calm_fit hf
  refine ⟨fun i hi => ?_, F0.pc, F0.stvec, F0.sscr, F0.sepc, F0.scause, F0.stval, F0.sie, F0.sip, F0.satp, F0.resv⟩
  show U64 (xup (xup (calmH h).x 5 a) 6 b i)
  unfold xup
  split
  · exact hb
  · split
    · exact ha
    · exact F0.x i hi
theorem br_not (k a b : Int) (hk : k = 1 ∨ k = 3 ∨ k = 5) : brV (k + 1) a b = !brV k a b := by
  rcases hk with rfl | rfl | rfl
  · simp [brV, bne]
  · have e1 : brV (3 + 1) a b = decide (wrap64 a ≥ wrap64 b) := by simp [brV]
    have e2 : brV 3 a b = decide (wrap64 a < wrap64 b) := by simp [brV]
    rw [e1, e2]
    by_cases h : wrap64 a < wrap64 b
    · rw [decide_eq_true h, decide_eq_false (by omega)]; rfl
    · rw [decide_eq_false h, decide_eq_true (by omega)]; rfl
  · have e1 : brV (5 + 1) a b = decide (a ≥ b) := by simp [brV]
    have e2 : brV 5 a b = decide (a < b) := by simp [brV]
    rw [e1, e2]
    by_cases h : a < b
    · rw [decide_eq_true h, decide_eq_false (by omega)]; rfl
    · rw [decide_eq_false h, decide_eq_true (by omega)]; rfl
theorem bra_x {h : Hrt} {a b : Int} (to : Int) : (braH { calmH h with x := xup (xup (calmH h).x 5 a) 6 b } to).x = xup (xup (calmH h).x 5 a) 6 b := by
  show xup (xup (xup (xup (calmH h).x 5 a) 6 b) 0 0) 0 0 = _
  rw [xup_zero (x := xup (xup (calmH h).x 5 a) 6 b) rfl, xup_zero (x := xup (xup (calmH h).x 5 a) 6 b) rfl]
theorem jal_r {h : Hrt} {d : Nat} (h0 : d ≠ 0) (n : Int) : (jalH (calmH h) d n).x d = 2147483652 := by
  show xup (xup (ord (calmH h)).x d (addW (ord (calmH h)).pc 4)) 0 0 d = _
  rw [xup_ne _ _ h0, xup_at]
  kernel_rfl
theorem links_any (h : Hrt) (hf : Fit h) (rd im fi a b : Int) (h1 : (-9223372036854775808 ≤ rd ∧ rd < 9223372036854775808)) (h2 : (-9223372036854775808 ≤ im ∧ im < 9223372036854775808)) (h3 : (-9223372036854775808 ≤ fi ∧ fi < 9223372036854775808)) (ha : U64 a) (hb : U64 b) (W : World) : Calls Tryz.prog 7 #[.agg (hc h), .int .i64 rd, .int .i64 im, .int .i64 fi, .int .u64 a, .int .u64 b] W fun e w' => e = .returned (.bool true) ∧ Below W.heap.size W w' := by
  have P : ∀ x m q, 0 < m → m < 9223372036854775808 → x % m = q → -9223372036854775808 ≤ x ∧ x < 9223372036854775808 → ∀ w, Calls Tryz.prog 25 #[.int .i64 x, .int .i64 m] w fun e w' => e = .returned (.int .i64 q) ∧ w = w' := fun x m q h0 hm e hx w => e ▸ Mem.place_any x m h0 hx hm w
  obtain ⟨d, ed⟩ := Int.eq_ofNat_of_zero_le (show 0 ≤ rd % 31 + 1 by omega)
  have hd : d < 32 := by omega
  have hd0 : d ≠ 0 := by omega
  obtain ⟨n, en⟩ : ∃ n, n = 2 * (im % 2048) - 2048 := ⟨_, rfl⟩
  have hn : -2048 ≤ n ∧ n < 2048 := by omega
  have he : n % 2 = 0 := by omega
  obtain ⟨f, ef⟩ : ∃ f, f = 1 + 2 * (fi % 3) := ⟨_, rfl⟩
  obtain ⟨f3, hf3, hp3, hp3'⟩ : ∃ f3 : Int, (0 ≤ f3 ∧ f3 < 7) ∧ pk brL f3 = f ∧ pk brL (f3 + 1) = f + 1 := by
    rcases (show fi % 3 = 0 ∨ fi % 3 = 1 ∨ fi % 3 = 2 by omega) with q | q | q
    · exact ⟨0, by decide, by rw [ef, q]; decide, by rw [ef, q]; decide⟩
    · exact ⟨4, by decide, by rw [ef, q]; decide, by rw [ef, q]; decide⟩
    · exact ⟨6, by decide, by rw [ef, q]; decide, by rw [ef, q]; decide⟩
  have F := calm_fit hf
  have F2 := links_fit hf ha hb
  have c0 : (calmH h).x 0 = 0 := (show xup h.x 0 0 0 = 0 from xup_at _ _ _)
  have base : ∀ t2 t3 : Int, t2 = (if brV f a b = true then addW 2147483648 (IntKind.u64.wrap n) else 2147483652) → t3 = (if brV (f + 1) a b = true then addW 2147483648 (IntKind.u64.wrap n) else 2147483652) → ((t2 = addW 2147483648 (IntKind.u64.wrap n) ∧ t3 = 2147483652) ∨ (t2 = 2147483652 ∧ t3 = addW 2147483648 (IntKind.u64.wrap n) ∧ ((2147483652 : Int) == addW 2147483648 (IntKind.u64.wrap n)) = false)) → Calls Tryz.prog 7 #[.agg (hc h), .int .i64 rd, .int .i64 im, .int .i64 fi, .int .u64 a, .int .u64 b] W fun e w' => e = .returned (.bool true) ∧ Below W.heap.size W w' := by
    intro t2 t3 e2 e3 ht
    rcases ht with ⟨k2, k3⟩ | ⟨k2, k3, hne⟩
    · exact link_a h (calmH h) (jalH (calmH h) d n) (braH { calmH h with x := xup (xup (calmH h).x 5 a) 6 b } t2) (braH { calmH h with x := xup (xup (calmH h).x 5 a) 6 b } t3) rd im fi a b (rd % 31) (im % 2048) (fi % 3) n (addW 2147483648 (IntKind.u64.wrap n)) t2 t3 f (f + 1) (jalU d n) (braU f3 n) (braU (f3 + 1) n) d hd (by rw [← ed]; exact IntWalk.i64_in _ (by omega)) (IntWalk.i64_in _ (by omega)) (by rw [en]; exact IntWalk.i64_in _ (by omega)) (IntWalk.i64_in _ (by omega)) (by rw [ef]; exact IntWalk.i64_in _ (by omega)) (by unfold wrap64; omega) (IntWalk.i64_in _ (by omega)) rfl (Lib.hid (P rd 31 _ (by decide) (by decide) rfl h1)) (Lib.hid (P im 2048 _ (by decide) (by decide) rfl h2)) (Lib.hid (P fi 3 _ (by decide) (by decide) rfl h3)) (Lib.hid (calm_any h hf)) (Lib.hid (one_jal hd hn he)) (Lib.hid (one_bra (by omega) hp3 (by omega) hn he)) (Lib.hid (one_bra (by omega) hp3' (by omega) hn he)) (Lib.hid (fun X gc gm tv m0 F1 hk => step_link hd hn he hk (calmH h) F rfl rfl rfl)) (Lib.hid (fun X gc gm tv m0 F1 hk => step_bra (by omega) hp3 (by omega) hn he hk _ F2 rfl rfl rfl t2 e2)) (Lib.hid (fun X gc gm tv m0 F1 hk => step_bra (by omega) hp3' (by omega) hn he hk _ F2 rfl rfl rfl t3 e3)) rfl rfl (link_pc n) ((hc_d _ hd).trans (by rw [jal_r hd0])) rfl rfl k2 k3 (by rw [← bra_x t2]; exact row_x _) (row_x _) W
    · exact link_b h (calmH h) (jalH (calmH h) d n) (braH { calmH h with x := xup (xup (calmH h).x 5 a) 6 b } t2) (braH { calmH h with x := xup (xup (calmH h).x 5 a) 6 b } t3) rd im fi a b (rd % 31) (im % 2048) (fi % 3) n (addW 2147483648 (IntKind.u64.wrap n)) t2 t3 f (f + 1) (jalU d n) (braU f3 n) (braU (f3 + 1) n) d hd (by rw [← ed]; exact IntWalk.i64_in _ (by omega)) (IntWalk.i64_in _ (by omega)) (by rw [en]; exact IntWalk.i64_in _ (by omega)) (IntWalk.i64_in _ (by omega)) (by rw [ef]; exact IntWalk.i64_in _ (by omega)) (by unfold wrap64; omega) (IntWalk.i64_in _ (by omega)) rfl (Lib.hid (P rd 31 _ (by decide) (by decide) rfl h1)) (Lib.hid (P im 2048 _ (by decide) (by decide) rfl h2)) (Lib.hid (P fi 3 _ (by decide) (by decide) rfl h3)) (Lib.hid (calm_any h hf)) (Lib.hid (one_jal hd hn he)) (Lib.hid (one_bra (by omega) hp3 (by omega) hn he)) (Lib.hid (one_bra (by omega) hp3' (by omega) hn he)) (Lib.hid (fun X gc gm tv m0 F1 hk => step_link hd hn he hk (calmH h) F rfl rfl rfl)) (Lib.hid (fun X gc gm tv m0 F1 hk => step_bra (by omega) hp3 (by omega) hn he hk _ F2 rfl rfl rfl t2 e2)) (Lib.hid (fun X gc gm tv m0 F1 hk => step_bra (by omega) hp3' (by omega) hn he hk _ F2 rfl rfl rfl t3 e3)) rfl rfl (link_pc n) ((hc_d _ hd).trans (by rw [jal_r hd0])) rfl rfl k2 k3 hne (by rw [← bra_x t2]; exact row_x _) (row_x _) W
  have hbr := br_not f a b (by omega)
  refine base _ _ rfl rfl ?_
  rw [hbr]
  cases brV f a b
  · by_cases hz : (2147483652 : Int) = addW 2147483648 (IntKind.u64.wrap n)
    · left
      simp [← hz]
    · right
      refine ⟨by simp, by simp, beq_eq_false_iff_ne.2 hz⟩
  · left
    simp
end Go.Proofs.YthkodjkkcgdmfaaGreat.Hart
end
section
namespace Go.Proofs.YthkodjkkcgdmfaaGreat.Hart
open Go Go.RowKit Go.Proofs.YthkodjkkcgdmfaaGreat.Step
set_option linter.unusedVariables false
theorem links_row (h : Hrt) (rd im fi a b : Int) (W : World) (hf : Fit h) (h1 : (Lit.int .i64 rd).wf = true) (h2 : (Lit.int .i64 im).wf = true) (h3 : (Lit.int .i64 fi).wf = true) (ha : (Lit.int .u64 a).wf = true) (hb : (Lit.int .u64 b).wf = true) : Calls Tryz.prog 7 #[.agg (Hart.hc h), .int .i64 rd, .int .i64 im, .int .i64 fi, .int .u64 a, .int .u64 b] W fun e w' => e = .returned (.bool true) ∧ Below W.heap.size W w' :=
  links_any h hf rd im fi a b (by have := bounds_i64 h1; omega) (by have := bounds_i64 h2; omega) (by have := bounds_i64 h3; omega) (bd_u64 ha) (bd_u64 hb) W
end Go.Proofs.YthkodjkkcgdmfaaGreat.Hart
end
