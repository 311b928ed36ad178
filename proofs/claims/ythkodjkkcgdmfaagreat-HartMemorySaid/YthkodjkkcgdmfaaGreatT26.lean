/- Parts of the walks and laws for the claim: OpenH, RowF, Co; no conditions beyond the theorems' own. -/
import Derived.Carry
import Derived.ChangeArms
import Derived.ChangeOld
import Derived.OpenShut
import Derived.ProofKit
import Derived.ShutString
import Derived.SizedLaws
import Derived.Test.YthkodjkkcgdmfaaGreatRows
import Derived.WalkKit
import Derived.Test.YthkodjkkcgdmfaaGreatT2
import Derived.Test.YthkodjkkcgdmfaaGreatT25
section
namespace Go.Proofs.YthkodjkkcgdmfaaGreat.Hart
open Go Go.RowKit Go.ChangeShapes Go.WideShapes Go.ChangeAt
set_option linter.unusedVariables false
set_option linter.unusedSimpArgs false
set_option maxRecDepth 100000
section
variable {H : Type} {enc : TypeId × Value → H} {W : World} {base : Nat} {sp : Nat → Bool} {held : Bool}
theorem co_u64 : Tryz.prog.cellsOf 22 = 1 := by kernel_rfl
theorem co_bool : Tryz.prog.cellsOf 4 = 1 := by kernel_rfl
theorem co_arr : Tryz.prog.cellsOf 23 = 32 := by kernel_rfl
theorem co_hart : Tryz.prog.cellsOf 25 = 49 := by kernel_rfl
theorem bd_u64 {v : Int} (h : (Lit.int .u64 v).wf = true) : U64 v := by have := bounds_u64 h; exact ⟨by omega, by omega⟩
set_option maxHeartbeats 8000000 in
theorem open_hart {r : Reach} {b0 : Nat} {v : Value} {d : DataW H} {ps : List MemPlace} (hval : Value.okWide Tryz.prog W r b0 25 v) (h : DataW.Trod enc Tryz.prog W base sp held 25 v d ps) :
    ∃ h : Hrt, v = .agg (hc h) ∧ Fit h := by
  simp only [Value.okWide, Tryz.underlying25] at hval
  obtain ⟨cs, rfl, hsz, _⟩ := hval
  rw [co_hart] at hsz
  obtain ⟨l⟩ := cs
  obtain ⟨fuel, hf⟩ := h
  match l, hsz with
  | a0 :: a1 :: a2 :: a3 :: a4 :: a5 :: a6 :: a7 :: a8 :: a9 :: a10 :: a11 :: a12 :: a13 :: a14 :: a15 :: a16 :: a17 :: a18 :: a19 :: a20 :: a21 :: a22 :: a23 :: a24 :: a25 :: a26 :: a27 :: a28 :: a29 :: a30 :: a31 :: a32 :: a33 :: a34 :: a35 :: a36 :: a37 :: a38 :: a39 :: a40 :: a41 :: a42 :: a43 :: a44 :: a45 :: a46 :: a47 :: a48 :: [], _ =>
    obtain ⟨xs, n, _, _, _, hxl, hfl⟩ := DataW.trod_struct Tryz.underlying25 hf
    match xs, hxl with
    | [y0, y1, y2, y3, y4, y5, y6, y7, y8, y9, y10, y11, y12, y13, y14, y15, y16, y17], _ =>
      have gA : DataW.trod enc Tryz.prog W base sp held n 23 [a0, a1, a2, a3, a4, a5, a6, a7, a8, a9, a10, a11, a12, a13, a14, a15, a16, a17, a18, a19, a20, a21, a22, a23, a24, a25, a26, a27, a28, a29, a30, a31] = some y0 := by simpa [co_arr, co_u64, co_bool, Value.cells] using hfl 0 _ rfl
      obtain ⟨xs2, m, _, _, _, hx2, hal⟩ := DataW.trod_array Tryz.underlying23 gA
      match xs2, hx2 with
      | z0 :: z1 :: z2 :: z3 :: z4 :: z5 :: z6 :: z7 :: z8 :: z9 :: z10 :: z11 :: z12 :: z13 :: z14 :: z15 :: z16 :: z17 :: z18 :: z19 :: z20 :: z21 :: z22 :: z23 :: z24 :: z25 :: z26 :: z27 :: z28 :: z29 :: z30 :: z31 :: [], _ =>
        have g0 : DataW.trod enc Tryz.prog W base sp held m 22 [a0] = some z0 := by simpa [co_u64] using hal 0 (by decide)
        have g1 : DataW.trod enc Tryz.prog W base sp held m 22 [a1] = some z1 := by simpa [co_u64] using hal 1 (by decide)
        have g2 : DataW.trod enc Tryz.prog W base sp held m 22 [a2] = some z2 := by simpa [co_u64] using hal 2 (by decide)
        have g3 : DataW.trod enc Tryz.prog W base sp held m 22 [a3] = some z3 := by simpa [co_u64] using hal 3 (by decide)
        have g4 : DataW.trod enc Tryz.prog W base sp held m 22 [a4] = some z4 := by simpa [co_u64] using hal 4 (by decide)
        have g5 : DataW.trod enc Tryz.prog W base sp held m 22 [a5] = some z5 := by simpa [co_u64] using hal 5 (by decide)
        have g6 : DataW.trod enc Tryz.prog W base sp held m 22 [a6] = some z6 := by simpa [co_u64] using hal 6 (by decide)
        have g7 : DataW.trod enc Tryz.prog W base sp held m 22 [a7] = some z7 := by simpa [co_u64] using hal 7 (by decide)
        have g8 : DataW.trod enc Tryz.prog W base sp held m 22 [a8] = some z8 := by simpa [co_u64] using hal 8 (by decide)
        have g9 : DataW.trod enc Tryz.prog W base sp held m 22 [a9] = some z9 := by simpa [co_u64] using hal 9 (by decide)
        have g10 : DataW.trod enc Tryz.prog W base sp held m 22 [a10] = some z10 := by simpa [co_u64] using hal 10 (by decide)
        have g11 : DataW.trod enc Tryz.prog W base sp held m 22 [a11] = some z11 := by simpa [co_u64] using hal 11 (by decide)
        have g12 : DataW.trod enc Tryz.prog W base sp held m 22 [a12] = some z12 := by simpa [co_u64] using hal 12 (by decide)
        have g13 : DataW.trod enc Tryz.prog W base sp held m 22 [a13] = some z13 := by simpa [co_u64] using hal 13 (by decide)
        have g14 : DataW.trod enc Tryz.prog W base sp held m 22 [a14] = some z14 := by simpa [co_u64] using hal 14 (by decide)
        have g15 : DataW.trod enc Tryz.prog W base sp held m 22 [a15] = some z15 := by simpa [co_u64] using hal 15 (by decide)
        have g16 : DataW.trod enc Tryz.prog W base sp held m 22 [a16] = some z16 := by simpa [co_u64] using hal 16 (by decide)
        have g17 : DataW.trod enc Tryz.prog W base sp held m 22 [a17] = some z17 := by simpa [co_u64] using hal 17 (by decide)
        have g18 : DataW.trod enc Tryz.prog W base sp held m 22 [a18] = some z18 := by simpa [co_u64] using hal 18 (by decide)
        have g19 : DataW.trod enc Tryz.prog W base sp held m 22 [a19] = some z19 := by simpa [co_u64] using hal 19 (by decide)
        have g20 : DataW.trod enc Tryz.prog W base sp held m 22 [a20] = some z20 := by simpa [co_u64] using hal 20 (by decide)
        have g21 : DataW.trod enc Tryz.prog W base sp held m 22 [a21] = some z21 := by simpa [co_u64] using hal 21 (by decide)
        have g22 : DataW.trod enc Tryz.prog W base sp held m 22 [a22] = some z22 := by simpa [co_u64] using hal 22 (by decide)
        have g23 : DataW.trod enc Tryz.prog W base sp held m 22 [a23] = some z23 := by simpa [co_u64] using hal 23 (by decide)
        have g24 : DataW.trod enc Tryz.prog W base sp held m 22 [a24] = some z24 := by simpa [co_u64] using hal 24 (by decide)
        have g25 : DataW.trod enc Tryz.prog W base sp held m 22 [a25] = some z25 := by simpa [co_u64] using hal 25 (by decide)
        have g26 : DataW.trod enc Tryz.prog W base sp held m 22 [a26] = some z26 := by simpa [co_u64] using hal 26 (by decide)
        have g27 : DataW.trod enc Tryz.prog W base sp held m 22 [a27] = some z27 := by simpa [co_u64] using hal 27 (by decide)
        have g28 : DataW.trod enc Tryz.prog W base sp held m 22 [a28] = some z28 := by simpa [co_u64] using hal 28 (by decide)
        have g29 : DataW.trod enc Tryz.prog W base sp held m 22 [a29] = some z29 := by simpa [co_u64] using hal 29 (by decide)
        have g30 : DataW.trod enc Tryz.prog W base sp held m 22 [a30] = some z30 := by simpa [co_u64] using hal 30 (by decide)
        have g31 : DataW.trod enc Tryz.prog W base sp held m 22 [a31] = some z31 := by simpa [co_u64] using hal 31 (by decide)
        have g32 : DataW.trod enc Tryz.prog W base sp held n 22 [a32] = some y1 := by simpa [co_u64, co_bool, Value.cells] using hfl 1 _ rfl
        have g33 : DataW.trod enc Tryz.prog W base sp held n 4 [a33] = some y2 := by simpa [co_u64, co_bool, Value.cells] using hfl 2 _ rfl
        have g34 : DataW.trod enc Tryz.prog W base sp held n 4 [a34] = some y3 := by simpa [co_u64, co_bool, Value.cells] using hfl 3 _ rfl
        have g35 : DataW.trod enc Tryz.prog W base sp held n 4 [a35] = some y4 := by simpa [co_u64, co_bool, Value.cells] using hfl 4 _ rfl
        have g36 : DataW.trod enc Tryz.prog W base sp held n 4 [a36] = some y5 := by simpa [co_u64, co_bool, Value.cells] using hfl 5 _ rfl
        have g37 : DataW.trod enc Tryz.prog W base sp held n 4 [a37] = some y6 := by simpa [co_u64, co_bool, Value.cells] using hfl 6 _ rfl
        have g38 : DataW.trod enc Tryz.prog W base sp held n 4 [a38] = some y7 := by simpa [co_u64, co_bool, Value.cells] using hfl 7 _ rfl
        have g39 : DataW.trod enc Tryz.prog W base sp held n 4 [a39] = some y8 := by simpa [co_u64, co_bool, Value.cells] using hfl 8 _ rfl
        have g40 : DataW.trod enc Tryz.prog W base sp held n 22 [a40] = some y9 := by simpa [co_u64, co_bool, Value.cells] using hfl 9 _ rfl
        have g41 : DataW.trod enc Tryz.prog W base sp held n 22 [a41] = some y10 := by simpa [co_u64, co_bool, Value.cells] using hfl 10 _ rfl
        have g42 : DataW.trod enc Tryz.prog W base sp held n 22 [a42] = some y11 := by simpa [co_u64, co_bool, Value.cells] using hfl 11 _ rfl
        have g43 : DataW.trod enc Tryz.prog W base sp held n 22 [a43] = some y12 := by simpa [co_u64, co_bool, Value.cells] using hfl 12 _ rfl
        have g44 : DataW.trod enc Tryz.prog W base sp held n 22 [a44] = some y13 := by simpa [co_u64, co_bool, Value.cells] using hfl 13 _ rfl
        have g45 : DataW.trod enc Tryz.prog W base sp held n 22 [a45] = some y14 := by simpa [co_u64, co_bool, Value.cells] using hfl 14 _ rfl
        have g46 : DataW.trod enc Tryz.prog W base sp held n 22 [a46] = some y15 := by simpa [co_u64, co_bool, Value.cells] using hfl 15 _ rfl
        have g47 : DataW.trod enc Tryz.prog W base sp held n 22 [a47] = some y16 := by simpa [co_u64, co_bool, Value.cells] using hfl 16 _ rfl
        have g48 : DataW.trod enc Tryz.prog W base sp held n 22 [a48] = some y17 := by simpa [co_u64, co_bool, Value.cells] using hfl 17 _ rfl
        obtain ⟨n0, e0, _, w0⟩ := DataW.trod_int Tryz.underlying22 g0
        obtain ⟨n1, e1, _, w1⟩ := DataW.trod_int Tryz.underlying22 g1
        obtain ⟨n2, e2, _, w2⟩ := DataW.trod_int Tryz.underlying22 g2
        obtain ⟨n3, e3, _, w3⟩ := DataW.trod_int Tryz.underlying22 g3
        obtain ⟨n4, e4, _, w4⟩ := DataW.trod_int Tryz.underlying22 g4
        obtain ⟨n5, e5, _, w5⟩ := DataW.trod_int Tryz.underlying22 g5
        obtain ⟨n6, e6, _, w6⟩ := DataW.trod_int Tryz.underlying22 g6
        obtain ⟨n7, e7, _, w7⟩ := DataW.trod_int Tryz.underlying22 g7
        obtain ⟨n8, e8, _, w8⟩ := DataW.trod_int Tryz.underlying22 g8
        obtain ⟨n9, e9, _, w9⟩ := DataW.trod_int Tryz.underlying22 g9
        obtain ⟨n10, e10, _, w10⟩ := DataW.trod_int Tryz.underlying22 g10
        obtain ⟨n11, e11, _, w11⟩ := DataW.trod_int Tryz.underlying22 g11
        obtain ⟨n12, e12, _, w12⟩ := DataW.trod_int Tryz.underlying22 g12
        obtain ⟨n13, e13, _, w13⟩ := DataW.trod_int Tryz.underlying22 g13
        obtain ⟨n14, e14, _, w14⟩ := DataW.trod_int Tryz.underlying22 g14
        obtain ⟨n15, e15, _, w15⟩ := DataW.trod_int Tryz.underlying22 g15
        obtain ⟨n16, e16, _, w16⟩ := DataW.trod_int Tryz.underlying22 g16
        obtain ⟨n17, e17, _, w17⟩ := DataW.trod_int Tryz.underlying22 g17
        obtain ⟨n18, e18, _, w18⟩ := DataW.trod_int Tryz.underlying22 g18
        obtain ⟨n19, e19, _, w19⟩ := DataW.trod_int Tryz.underlying22 g19
        obtain ⟨n20, e20, _, w20⟩ := DataW.trod_int Tryz.underlying22 g20
        obtain ⟨n21, e21, _, w21⟩ := DataW.trod_int Tryz.underlying22 g21
        obtain ⟨n22, e22, _, w22⟩ := DataW.trod_int Tryz.underlying22 g22
        obtain ⟨n23, e23, _, w23⟩ := DataW.trod_int Tryz.underlying22 g23
        obtain ⟨n24, e24, _, w24⟩ := DataW.trod_int Tryz.underlying22 g24
        obtain ⟨n25, e25, _, w25⟩ := DataW.trod_int Tryz.underlying22 g25
        obtain ⟨n26, e26, _, w26⟩ := DataW.trod_int Tryz.underlying22 g26
        obtain ⟨n27, e27, _, w27⟩ := DataW.trod_int Tryz.underlying22 g27
        obtain ⟨n28, e28, _, w28⟩ := DataW.trod_int Tryz.underlying22 g28
        obtain ⟨n29, e29, _, w29⟩ := DataW.trod_int Tryz.underlying22 g29
        obtain ⟨n30, e30, _, w30⟩ := DataW.trod_int Tryz.underlying22 g30
        obtain ⟨n31, e31, _, w31⟩ := DataW.trod_int Tryz.underlying22 g31
        obtain ⟨n32, e32, _, w32⟩ := DataW.trod_int Tryz.underlying22 g32
        obtain ⟨n33, e33, _⟩ := DataW.trod_bool Tryz.underlying4 g33
        obtain ⟨n34, e34, _⟩ := DataW.trod_bool Tryz.underlying4 g34
        obtain ⟨n35, e35, _⟩ := DataW.trod_bool Tryz.underlying4 g35
        obtain ⟨n36, e36, _⟩ := DataW.trod_bool Tryz.underlying4 g36
        obtain ⟨n37, e37, _⟩ := DataW.trod_bool Tryz.underlying4 g37
        obtain ⟨n38, e38, _⟩ := DataW.trod_bool Tryz.underlying4 g38
        obtain ⟨n39, e39, _⟩ := DataW.trod_bool Tryz.underlying4 g39
        obtain ⟨n40, e40, _, w40⟩ := DataW.trod_int Tryz.underlying22 g40
        obtain ⟨n41, e41, _, w41⟩ := DataW.trod_int Tryz.underlying22 g41
        obtain ⟨n42, e42, _, w42⟩ := DataW.trod_int Tryz.underlying22 g42
        obtain ⟨n43, e43, _, w43⟩ := DataW.trod_int Tryz.underlying22 g43
        obtain ⟨n44, e44, _, w44⟩ := DataW.trod_int Tryz.underlying22 g44
        obtain ⟨n45, e45, _, w45⟩ := DataW.trod_int Tryz.underlying22 g45
        obtain ⟨n46, e46, _, w46⟩ := DataW.trod_int Tryz.underlying22 g46
        obtain ⟨n47, e47, _, w47⟩ := DataW.trod_int Tryz.underlying22 g47
        obtain ⟨n48, e48, _, w48⟩ := DataW.trod_int Tryz.underlying22 g48
        simp only [List.cons.injEq, and_true] at e0 e1 e2 e3 e4 e5 e6 e7 e8 e9 e10 e11 e12 e13 e14 e15 e16 e17 e18 e19 e20 e21 e22 e23 e24 e25 e26 e27 e28 e29 e30 e31 e32 e33 e34 e35 e36 e37 e38 e39 e40 e41 e42 e43 e44 e45 e46 e47 e48
        subst e0 e1 e2 e3 e4 e5 e6 e7 e8 e9 e10 e11 e12 e13 e14 e15 e16 e17 e18 e19 e20 e21 e22 e23 e24 e25 e26 e27 e28 e29 e30 e31 e32 e33 e34 e35 e36 e37 e38 e39 e40 e41 e42 e43 e44 e45 e46 e47 e48
        refine ⟨{ x := fun k => match k with | 0 => n0 | 1 => n1 | 2 => n2 | 3 => n3 | 4 => n4 | 5 => n5 | 6 => n6 | 7 => n7 | 8 => n8 | 9 => n9 | 10 => n10 | 11 => n11 | 12 => n12 | 13 => n13 | 14 => n14 | 15 => n15 | 16 => n16 | 17 => n17 | 18 => n18 | 19 => n19 | 20 => n20 | 21 => n21 | 22 => n22 | 23 => n23 | 24 => n24 | 25 => n25 | 26 => n26 | 27 => n27 | 28 => n28 | 29 => n29 | 30 => n30 | 31 => n31 | _ => 0, pc := n32, user := n33, on := n34, spie := n35, spp := n36, sum := n37, mxr := n38, rsv := n39, stvec := n40, sscr := n41, sepc := n42, scause := n43, stval := n44, sie := n45, sip := n46, satp := n47, resv := n48 }, rfl, fun i hi => ?_, bd_u64 w32, bd_u64 w40, bd_u64 w41, bd_u64 w42, bd_u64 w43, bd_u64 w44, bd_u64 w45, bd_u64 w46, bd_u64 w47, bd_u64 w48⟩
        obtain h1 | h1 | h1 | h1 | h1 | h1 | h1 | h1 | h1 | h1 | h1 | h1 | h1 | h1 | h1 | h1 | h1 | h1 | h1 | h1 | h1 | h1 | h1 | h1 | h1 | h1 | h1 | h1 | h1 | h1 | h1 | h1 : i = 0 ∨ i = 1 ∨ i = 2 ∨ i = 3 ∨ i = 4 ∨ i = 5 ∨ i = 6 ∨ i = 7 ∨ i = 8 ∨ i = 9 ∨ i = 10 ∨ i = 11 ∨ i = 12 ∨ i = 13 ∨ i = 14 ∨ i = 15 ∨ i = 16 ∨ i = 17 ∨ i = 18 ∨ i = 19 ∨ i = 20 ∨ i = 21 ∨ i = 22 ∨ i = 23 ∨ i = 24 ∨ i = 25 ∨ i = 26 ∨ i = 27 ∨ i = 28 ∨ i = 29 ∨ i = 30 ∨ i = 31 := by omega
        · subst h1; exact bd_u64 w0
        · subst h1; exact bd_u64 w1
        · subst h1; exact bd_u64 w2
        · subst h1; exact bd_u64 w3
        · subst h1; exact bd_u64 w4
        · subst h1; exact bd_u64 w5
        · subst h1; exact bd_u64 w6
        · subst h1; exact bd_u64 w7
        · subst h1; exact bd_u64 w8
        · subst h1; exact bd_u64 w9
        · subst h1; exact bd_u64 w10
        · subst h1; exact bd_u64 w11
        · subst h1; exact bd_u64 w12
        · subst h1; exact bd_u64 w13
        · subst h1; exact bd_u64 w14
        · subst h1; exact bd_u64 w15
        · subst h1; exact bd_u64 w16
        · subst h1; exact bd_u64 w17
        · subst h1; exact bd_u64 w18
        · subst h1; exact bd_u64 w19
        · subst h1; exact bd_u64 w20
        · subst h1; exact bd_u64 w21
        · subst h1; exact bd_u64 w22
        · subst h1; exact bd_u64 w23
        · subst h1; exact bd_u64 w24
        · subst h1; exact bd_u64 w25
        · subst h1; exact bd_u64 w26
        · subst h1; exact bd_u64 w27
        · subst h1; exact bd_u64 w28
        · subst h1; exact bd_u64 w29
        · subst h1; exact bd_u64 w30
        · subst h1; exact bd_u64 w31
end
end Go.Proofs.YthkodjkkcgdmfaaGreat.Hart
end
section
namespace Go.Proofs.YthkodjkkcgdmfaaGreat.Hart
open Go Go.RowKit Go.Proofs.YthkodjkkcgdmfaaGreat.Step
set_option linter.unusedVariables false
theorem registers_row (h : Hrt) (fa ra sa ta : Int) (W : World) (hf : Fit h) (h1 : (Lit.int .i64 fa).wf = true) (h2 : (Lit.int .i64 ra).wf = true) (h3 : (Lit.int .i64 sa).wf = true) (h4 : (Lit.int .i64 ta).wf = true) : Calls Tryz.prog 8 #[.agg (Hart.hc h), .int .i64 fa, .int .i64 ra, .int .i64 sa, .int .i64 ta] W fun e w' => e = .returned (.bool true) ∧ Below W.heap.size W w' :=
  registers_any h hf fa ra sa ta (by have := bounds_i64 h1; omega) (by have := bounds_i64 h2; omega) (by have := bounds_i64 h3; omega) (by have := bounds_i64 h4; omega) W
end Go.Proofs.YthkodjkkcgdmfaaGreat.Hart
end
section
namespace Go.Proofs.YthkodjkkcgdmfaaGreat.Ref
open Go Go.RowKit Go.Proofs.YthkodjkkcgdmfaaGreat.Step Go.Proofs.YthkodjkkcgdmfaaGreat.Mem
/-- What the document's memory stands in are blocks of cells. -/
theorem Mem.lean {W : World} {h n : Nat} {base : Int} {mem : Nat → Int} {F : Nat → Prop} (r : Mem W h base n mem F) : Mem W h base n mem (fun k => F k ∧ ∃ cs T, Blk W k cs T) := by
  obtain ⟨fb, cs, fs, r⟩ := r
  exact ⟨fb, cs, fs, { r with
    frame := fun k g c hk hg => by
      obtain ⟨hF, bs, hb, h1, h2⟩ := r.frame k g c hk hg
      exact ⟨⟨hF, _, _, hb⟩, bs, hb, h1, h2⟩
    foot_h := ⟨r.foot_h, _, _, r.hdr⟩
    foot_fb := ⟨r.foot_fb, _, _, r.row⟩
    bound := fun k hk => r.bound k hk.1 }⟩
end Go.Proofs.YthkodjkkcgdmfaaGreat.Ref
namespace Go.Proofs.YthkodjkkcgdmfaaGreat.Hart
open Go Go.RowKit Go.Proofs.YthkodjkkcgdmfaaGreat.Step Go.Proofs.YthkodjkkcgdmfaaGreat.Enc Go.Proofs.YthkodjkkcgdmfaaGreat.Kn
open Go.Proofs.YthkodjkkcgdmfaaGreat.Mem (Ram Grow hasB newB wholeB num wr Rd fl Arg lst)
open Go.Proofs.YthkodjkkcgdmfaaGreat.Duo (Duo RdC cm size_two)
set_option linter.unusedVariables false
set_option linter.unusedSimpArgs false
set_option maxRecDepth 100000
/-- Two memories beside a list of blocks, and a core behind its first step. -/
structure Co (W w : World) (gc h1 h2 : Nat) (tv : Value) (base : Int) (n : Nat) (m1 m2 : Nat → Int) (F1 F2 : Nat → Prop) (L : Blks) : Prop where
  dk : DK W w h1 h2 base n m1 m2 F1 F2 L
  kor : Kor w gc h1 tv 0 base n m1 F1
  nF : ¬ F2 gc
  nL : ∀ p ∈ L, p.1 ≠ gc
  own : W.heap.size ≤ gc
section
variable {W w w' : World} {gc h1 h2 n g : Nat} {tv : Value} {base : Int} {m1 m2 m1' : Nat → Int} {F1 F2 F1' : Nat → Prop} {L L' : Blks} {c c' : Array Value} {T : TypeId} {p q : Nat × Array Value × TypeId}
theorem Co.kn (d : Co W w gc h1 h2 tv base n m1 m2 F1 F2 L) : Kn Step.Nil W w L := d.dk.kn
theorem Co.below (d : Co W w gc h1 h2 tv base n m1 m2 F1 F2 L) : Below W.heap.size W w := d.dk.below
theorem Co.call (d : Co W w gc h1 h2 tv base n m1 m2 F1 F2 L) (b : Below w.heap.size w w') : Co W w' gc h1 h2 tv base n m1 m2 F1 F2 L := ⟨d.dk.call b, d.kor.below b, d.nF, d.nL, d.own⟩
theorem Co.made (d : Co W w gc h1 h2 tv base n m1 m2 F1 F2 L) (b : Blk w' g c T) (hg : w.heap.size ≤ g) (hb : Below w.heap.size w w') : Co W w' gc h1 h2 tv base n m1 m2 F1 F2 ((g, c, T) :: L) :=
  ⟨d.dk.made b hg hb, d.kor.below hb, d.nF, fun p hp => by
    rcases List.mem_cons.1 hp with rfl | hp
    · have := d.kor.lt
      show g ≠ gc
      omega
    · exact d.nL p hp, d.own⟩
theorem Co.set (d : Co W w gc h1 h2 tv base n m1 m2 F1 F2 L) (k : Kn Step.Nil W w' L') (m : Mod (One g) w w') (hg : ∃ p ∈ L, p.1 = g) (hL : L'.map (·.1) = L.map (·.1)) : Co W w' gc h1 h2 tv base n m1 m2 F1 F2 L' := by
  refine ⟨d.dk.set k m hg hL, ?_, d.nF, fun r hr => ?_, d.own⟩
  · obtain ⟨p, hp, rfl⟩ := hg
    exact d.kor.mod m (fun e => d.nL p hp (e : gc = p.1).symm) (fun k hk e => d.dk.ap k (.inl hk) p hp (e : k = p.1).symm) fun r hr e => cell_map (d.dk.kn.blk p hp) hr (e : r = p.1).symm
  · have : r.1 ∈ L'.map (·.1) := List.mem_map.2 ⟨r, hr, rfl⟩
    rw [hL] at this
    obtain ⟨s, hs, e⟩ := List.mem_map.1 this
    rw [← e]
    exact d.nL s hs
/-- The first step. -/
theorem DK.stepK (d : DK W w h1 h2 base n m1 m2 F1 F2 ((gc, c, T) :: L)) (hk : Kor w' gc h1 tv 0 base n m1' F1') (m : Mod (fun k => k = gc ∨ F1 k) w w') (hF : ∀ k, F1' k → F1 k ∨ w.heap.size ≤ k) : Co W w' gc h1 h2 tv base n m1' m2 F1' F2 L :=
  ⟨d.step hk m hF, hk, fun h => d.ap gc (.inr h) _ (List.mem_cons_self ..) rfl, fun p hp e => (List.pairwise_cons.1 d.kn.nod).1 p hp e.symm, Nat.le_of_not_lt fun h => d.kn.own _ (List.mem_cons_self ..) h⟩
theorem DK.stepK1 (d : DK W w h1 h2 base n m1 m2 F1 F2 (p :: (gc, c, T) :: L)) (hk : Kor w' gc h1 tv 0 base n m1' F1') (m : Mod (fun k => k = gc ∨ F1 k) w w') (hF : ∀ k, F1' k → F1 k ∨ w.heap.size ≤ k) : Co W w' gc h1 h2 tv base n m1' m2 F1' F2 (p :: L) := d.swap.stepK hk m hF
/-- A further step. -/
theorem Co.stepD (d : Co W w gc h1 h2 tv base n m1 m2 F1 F2 L) (hk : Kor w' gc h1 tv 0 base n m1' F1') (m : Mod (fun k => k = gc ∨ F1 k) w w') (hF : ∀ k, F1' k → F1 k ∨ w.heap.size ≤ k) : DK W w' h1 h2 base n m1' m2 F1' F2 L := by
  have hW := d.dk.kn.mod.size
  refine ⟨hk.ram, d.dk.two.mod m fun k h2 h => ?_, fun k h1 h2 => ?_, fun k h => ?_, d.dk.kn.turn m (fun p hp h => ?_) (fun i hi h => ?_), fun k h p hp e => ?_⟩
  · rcases h with h | h
    · have h' : k = gc := h
      exact d.nF (h' ▸ h2)
    · exact d.dk.apart k h h2
  · rcases hF k h1 with h | h
    · exact d.dk.apart k h h2
    · have := d.dk.two.bound k h2; omega
  · rcases h with h | h
    · rcases hF k h with h | h
      · exact d.dk.new k (.inl h)
      · omega
    · exact d.dk.new k (.inr h)
  · rcases h with h | h
    · exact d.nL p hp h
    · exact d.dk.ap p.1 (.inl h) p hp rfl
  · rcases h with h | h
    · have h' : i = gc := h
      have := d.own; omega
    · have := d.dk.new i (.inl h); omega
  · have hb := (d.dk.kn.blk p hp).lt
    rcases h with h | h
    · rcases hF k h with h | h
      · exact d.dk.ap k (.inl h) p hp e
      · omega
    · exact d.dk.ap k (.inr h) p hp e
/-- The document's memory alone is written. -/
theorem Co.rwrite (d : Co W w gc h1 h2 tv base n m1 m2 F1 F2 L) (addr v z : Int) (s : Nat) (hz : z = s) (ha : 0 ≤ addr ∧ addr < 18446744073709551616) (hv : 0 ≤ v ∧ v < 18446744073709551616) (hw : wholeB s = true) (hh : hasB base n addr s = true) :
    Calls Tryz.prog 29 #[.pointer (some ⟨h2, 0, none⟩), .int .u64 addr, .int .i64 z, .int .u64 v] w fun e w' => e = .returned (.bool true) ∧ ∃ F2', Co W w' gc h1 h2 tv base n m1 (wr m2 (addr - base).toNat s v) F1 F2' L := by
  have r0 := Ref.Mem.lean d.dk.two
  refine (Duo.rwrite_z r0 addr v z s hz ha hv hw hh).mono ?_
  rintro e w' ⟨rfl, r, m⟩
  have hm : Mod (fun k => F1 k ∨ F2 k) w w' := m.mono fun k _ h => .inr h.1
  have hap : ∀ k, F1 k → ¬ Grow (fun k => F2 k ∧ ∃ cs T, Blk w k cs T) w w' k := fun k h1 h2 => by
    rcases h2 with h2 | h2
    · exact d.dk.apart k h1 h2.1
    · have := d.dk.one.bound k h1; omega
  refine ⟨rfl, _, d.dk.turn (d.dk.one.mod m fun k h1 h2 => d.dk.apart k h1 h2.1) r hap (fun k _ h => h) (fun k hk h => ?_) hm, d.kor.mod m (fun h => d.nF h.1) (fun k h1 h2 => d.dk.apart k h1 h2.1) (fun r hr h => ?_), fun h => ?_, d.nL, d.own⟩
  · rcases h with h | h
    · exact h.1
    · omega
  · obtain ⟨cs, T, hb⟩ := h.2
    exact cell_map hb hr rfl
  · rcases h with h | h
    · exact d.nF h.1
    · have := d.kor.lt; omega
end
/-- A load's step, wherever it stands. -/
theorem step_loads_at {W : World} {gc gm : Nat} {tv : Value} {mem mem2 : Nat → Int} {F : Nat → Prop} {s2 : Stp} {u : Int} (hk : Kor W gc gm tv 0 2147483648 1 mem F) (h : Hrt) (hf : Fit h) (now : Int) (pc : Int) (hpc : (ord h).pc = pc) (hp : 0 ≤ pc ∧ pc + 2 < 18446744073709551616) (b1 : hasB 2147483648 1 pc 2 = true) (b2 : hasB 2147483648 1 (pc + 2) 2 = true) (hl : num mem (pc - 2147483648).toNat 2 = u % 65536) (hh : num mem (pc + 2 - 2147483648).toNat 2 = u / 65536) (hsie : h.sie = 0) (hsat : h.satp = 0) (hu : W32 u) {fn rd rs1 rs2 imm sz : Int} {sg : Bool} (hd : dec u = some ⟨6, fn, rd, rs1, rs2, imm, sz, sg⟩) (TD : Hid (∀ w, Calls Tryz.prog 63 #[.int .u32 u] w fun e w' => e = .returned (told (dec u)) ∧ Below w.heap.size w w')) (hg2 : s2.gc = gc)
    (HK : ∀ (W' : World) (gs r : Nat) (F' : Nat → Prop), Sy W' gs (decP (newS gc now (ord h)) u ⟨6, fn, rd, rs1, rs2, imm, sz, sg⟩) gm tv 0 0 (.map (some r)) 2147483648 1 mem F' (fun k => k = r) (KT r fun _ => True) → Calls Tryz.prog 92 #[.pointer (some ⟨gs, 0, none⟩)] W' fun e w' => e = .returned (.tuple #[]) ∧ Out W' w' gs s2 gm tv 0 0 (.map (some r)) 2147483648 1 mem2 F' (fun k => k = r) (KT r fun _ => True)) :
    Calls Tryz.prog 23 #[.pointer (some ⟨gc, 0, none⟩), .agg (hc h), .int .u64 now] W fun e w' => e = .returned (.tuple #[.agg (hc (zeroX s2).h), .agg (ecells (zeroX s2))]) ∧ ∃ F', Kor w' gc gm tv 0 2147483648 1 mem2 F' ∧ Mod (fun k => k = gc ∨ F k) W w' ∧ ∀ k, F' k → F k ∨ W.heap.size ≤ k := by
  have hh' := hu.out
  have e4 : u / 65536 * 65536 + u % 65536 = u := by omega
  refine step_any (s2 := zeroX s2) hk h hf now hg2 fun W' gs r y => ?_
  have hsat2 : (ord h).satp = 0 := hsat
  refine run_loads y (show (ord h).satp / 1152921504606846976 = 0 by rw [hsat2]; rfl) (show U64 (ord h).satp by rw [hsat2]; exact ⟨by decide, by decide⟩) (ord_sie0 hsie) (show 0 ≤ (ord h).pc ∧ (ord h).pc + 2 < 18446744073709551616 by rw [hpc]; exact hp) (show hasB 2147483648 1 (ord h).pc 2 = true by rw [hpc]; exact b1) (show hasB 2147483648 1 ((ord h).pc + 2) 2 = true by rw [hpc]; exact b2) (u % 65536) (u / 65536) (by rw [show (newS gc now (ord h)).was.pc = pc from hpc]; exact hl) (by rw [show (newS gc now (ord h)).was.pc = pc from hpc]; exact hh) (by omega) (by omega) (by have := dec_low hd; omega) fn rd rs1 rs2 imm sz sg (by rw [e4]; exact hd) (by rw [e4]; exact TD) ?_
  rw [e4]
  exact fun W'' F' y2 => HK W'' gs r F' y2
theorem wr_comm (m : Nat → Int) {a b s t : Nat} (h : a + s ≤ b ∨ b + t ≤ a) (u v : Int) : wr (wr m a s u) b t v = wr (wr m b t v) a s u := by
  funext i
  unfold wr
  by_cases h1 : b ≤ i ∧ i < b + t
  · rw [if_pos h1, if_neg (by omega), if_pos h1]
  · rw [if_neg h1]
    by_cases h2 : a ≤ i ∧ i < a + s
    · rw [if_pos h2, if_pos h2]
    · rw [if_neg h2, if_neg h2, if_neg h1]
theorem num_off (m : Nat → Int) {o s : Nat} (v : Int) : ∀ (l : Nat) {k : Nat}, (k + l ≤ o ∨ o + s ≤ k) → num (wr m o s v) k l = num m k l
  | 0, k, h => rfl
  | l + 1, k, h => by
    show wr m o s v k + 256 * num (wr m o s v) (k + 1) l = m k + 256 * num m (k + 1) l
    rw [num_off m v l (by omega)]
    unfold wr
    rw [if_neg (by omega)]
theorem num_own (mem : Nat → Int) (o s : Nat) (v : Int) : ∀ l k, k + l = s → num (wr mem o s v) (o + k) l = v / 256 ^ k % 256 ^ l
  | 0, k, h => by simp [num, Int.emod_one]
  | l + 1, k, h => by
    have ih := num_own mem o s v l (k + 1) (by omega)
    have h1 : wr mem o s v (o + k) = v / 256 ^ k % 256 := by unfold wr; rw [if_pos (by omega), Nat.add_sub_cancel_left]
    show wr mem o s v (o + k) + 256 * num (wr mem o s v) (o + k + 1) l = _
    rw [h1, show o + k + 1 = o + (k + 1) by omega, ih, Int.pow_succ 256 k, ← Int.ediv_ediv_of_nonneg (Int.pow_nonneg (by decide)), Int.pow_succ, Int.mul_comm (256 ^ l) 256]
    generalize v / 256 ^ k = x
    generalize hy : (256 : Int) ^ l = y
    have hy0 : 0 < y := by rw [← hy]; exact Int.pow_pos (by decide)
    have e1 := Int.mul_ediv_add_emod x 256
    have e2 := Int.mul_ediv_add_emod (x / 256) y
    have b1 := Int.emod_nonneg x (show (256 : Int) ≠ 0 by decide)
    have b2 := Int.emod_lt_of_pos x (show (0 : Int) < 256 by decide)
    have b3 := Int.emod_nonneg (x / 256) (Int.ne_of_gt hy0)
    have b4 := Int.emod_lt_of_pos (x / 256) hy0
    have e3 : x = (x % 256 + 256 * (x / 256 % y)) + (256 * y) * (x / 256 / y) := by
      rw [Int.mul_assoc]
      generalize y * (x / 256 / y) = z at *
      omega
    have e4 := congrArg (· % (256 * y)) e3
    rw [show x % (256 * y) = _ from e4, Int.add_mul_emod_self_left, Int.emod_eq_of_lt (a := x % 256 + 256 * (x / 256 % y)) (b := 256 * y) (by omega) (by omega)]
end Go.Proofs.YthkodjkkcgdmfaaGreat.Hart
end
