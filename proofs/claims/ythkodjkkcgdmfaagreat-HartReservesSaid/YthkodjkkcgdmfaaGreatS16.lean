/- Parts of the walks and laws for the claim: OpenH, RowD, LawE, RowE; no conditions beyond the theorems' own. -/
import Derived.Carry
import Derived.ChangeArms
import Derived.ChangeOld
import Derived.OpenShut
import Derived.ProofKit
import Derived.ShutString
import Derived.SizedLaws
import Derived.Test.YthkodjkkcgdmfaaGreatRows
import Derived.WalkKit
import Derived.Test.YthkodjkkcgdmfaaGreatS1
import Derived.Test.YthkodjkkcgdmfaaGreatS14
import Derived.Test.YthkodjkkcgdmfaaGreatS15
section
namespace Go.Proofs.YthkodjkkcgdmfaaGreat.Hart
open Go Go.RowKit Go.ChangeShapes Go.WideShapes Go.ChangeAt
set_option linter.unusedVariables false
set_option linter.unusedSimpArgs false
set_option maxRecDepth 100000
section
variable {H : Type} {enc : TypeId × Value → H} {W : World} {base : Nat} {sp : Nat → Bool} {held : Bool}
theorem co_u64 : Tryz.prog.cellsOf 22 = 1 := by kernel_rfl
theorem co_bool : Tryz.prog.cellsOf 4 = 1 := by kernel_rfl
theorem co_arr : Tryz.prog.cellsOf 23 = 32 := by kernel_rfl
theorem co_hart : Tryz.prog.cellsOf 25 = 49 := by kernel_rfl
theorem bd_u64 {v : Int} (h : (Lit.int .u64 v).wf = true) : U64 v := by have := bounds_u64 h; exact ⟨by omega, by omega⟩
set_option maxHeartbeats 8000000 in
theorem open_hart {r : Reach} {b0 : Nat} {v : Value} {d : DataW H} {ps : List MemPlace} (hval : Value.okWide Tryz.prog W r b0 25 v) (h : DataW.Trod enc Tryz.prog W base sp held 25 v d ps) :
    ∃ h : Hrt, v = .agg (hc h) ∧ Fit h := by
  simp only [Value.okWide, Tryz.underlying25] at hval
  obtain ⟨cs, rfl, hsz, _⟩ := hval
  rw [co_hart] at hsz
  obtain ⟨l⟩ := cs
  obtain ⟨fuel, hf⟩ := h
  match l, hsz with
  | a0 :: a1 :: a2 :: a3 :: a4 :: a5 :: a6 :: a7 :: a8 :: a9 :: a10 :: a11 :: a12 :: a13 :: a14 :: a15 :: a16 :: a17 :: a18 :: a19 :: a20 :: a21 :: a22 :: a23 :: a24 :: a25 :: a26 :: a27 :: a28 :: a29 :: a30 :: a31 :: a32 :: a33 :: a34 :: a35 :: a36 :: a37 :: a38 :: a39 :: a40 :: a41 :: a42 :: a43 :: a44 :: a45 :: a46 :: a47 :: a48 :: [], _ =>
    obtain ⟨xs, n, _, _, _, hxl, hfl⟩ := DataW.trod_struct Tryz.underlying25 hf
    match xs, hxl with
    | [y0, y1, y2, y3, y4, y5, y6, y7, y8, y9, y10, y11, y12, y13, y14, y15, y16, y17], _ =>
      have gA : DataW.trod enc Tryz.prog W base sp held n 23 [a0, a1, a2, a3, a4, a5, a6, a7, a8, a9, a10, a11, a12, a13, a14, a15, a16, a17, a18, a19, a20, a21, a22, a23, a24, a25, a26, a27, a28, a29, a30, a31] = some y0 := by simpa [co_arr, co_u64, co_bool, Value.cells] using hfl 0 _ rfl
      obtain ⟨xs2, m, _, _, _, hx2, hal⟩ := DataW.trod_array Tryz.underlying23 gA
      match xs2, hx2 with
      | z0 :: z1 :: z2 :: z3 :: z4 :: z5 :: z6 :: z7 :: z8 :: z9 :: z10 :: z11 :: z12 :: z13 :: z14 :: z15 :: z16 :: z17 :: z18 :: z19 :: z20 :: z21 :: z22 :: z23 :: z24 :: z25 :: z26 :: z27 :: z28 :: z29 :: z30 :: z31 :: [], _ =>
        have g0 : DataW.trod enc Tryz.prog W base sp held m 22 [a0] = some z0 := by simpa [co_u64] using hal 0 (by decide)
        have g1 : DataW.trod enc Tryz.prog W base sp held m 22 [a1] = some z1 := by simpa [co_u64] using hal 1 (by decide)
        have g2 : DataW.trod enc Tryz.prog W base sp held m 22 [a2] = some z2 := by simpa [co_u64] using hal 2 (by decide)
        have g3 : DataW.trod enc Tryz.prog W base sp held m 22 [a3] = some z3 := by simpa [co_u64] using hal 3 (by decide)
        have g4 : DataW.trod enc Tryz.prog W base sp held m 22 [a4] = some z4 := by simpa [co_u64] using hal 4 (by decide)
        have g5 : DataW.trod enc Tryz.prog W base sp held m 22 [a5] = some z5 := by simpa [co_u64] using hal 5 (by decide)
        have g6 : DataW.trod enc Tryz.prog W base sp held m 22 [a6] = some z6 := by simpa [co_u64] using hal 6 (by decide)
        have g7 : DataW.trod enc Tryz.prog W base sp held m 22 [a7] = some z7 := by simpa [co_u64] using hal 7 (by decide)
        have g8 : DataW.trod enc Tryz.prog W base sp held m 22 [a8] = some z8 := by simpa [co_u64] using hal 8 (by decide)
        have g9 : DataW.trod enc Tryz.prog W base sp held m 22 [a9] = some z9 := by simpa [co_u64] using hal 9 (by decide)
        have g10 : DataW.trod enc Tryz.prog W base sp held m 22 [a10] = some z10 := by simpa [co_u64] using hal 10 (by decide)
        have g11 : DataW.trod enc Tryz.prog W base sp held m 22 [a11] = some z11 := by simpa [co_u64] using hal 11 (by decide)
        have g12 : DataW.trod enc Tryz.prog W base sp held m 22 [a12] = some z12 := by simpa [co_u64] using hal 12 (by decide)
        have g13 : DataW.trod enc Tryz.prog W base sp held m 22 [a13] = some z13 := by simpa [co_u64] using hal 13 (by decide)
        have g14 : DataW.trod enc Tryz.prog W base sp held m 22 [a14] = some z14 := by simpa [co_u64] using hal 14 (by decide)
        have g15 : DataW.trod enc Tryz.prog W base sp held m 22 [a15] = some z15 := by simpa [co_u64] using hal 15 (by decide)
        have g16 : DataW.trod enc Tryz.prog W base sp held m 22 [a16] = some z16 := by simpa [co_u64] using hal 16 (by decide)
        have g17 : DataW.trod enc Tryz.prog W base sp held m 22 [a17] = some z17 := by simpa [co_u64] using hal 17 (by decide)
        have g18 : DataW.trod enc Tryz.prog W base sp held m 22 [a18] = some z18 := by simpa [co_u64] using hal 18 (by decide)
        have g19 : DataW.trod enc Tryz.prog W base sp held m 22 [a19] = some z19 := by simpa [co_u64] using hal 19 (by decide)
        have g20 : DataW.trod enc Tryz.prog W base sp held m 22 [a20] = some z20 := by simpa [co_u64] using hal 20 (by decide)
        have g21 : DataW.trod enc Tryz.prog W base sp held m 22 [a21] = some z21 := by simpa [co_u64] using hal 21 (by decide)
        have g22 : DataW.trod enc Tryz.prog W base sp held m 22 [a22] = some z22 := by simpa [co_u64] using hal 22 (by decide)
        have g23 : DataW.trod enc Tryz.prog W base sp held m 22 [a23] = some z23 := by simpa [co_u64] using hal 23 (by decide)
        have g24 : DataW.trod enc Tryz.prog W base sp held m 22 [a24] = some z24 := by simpa [co_u64] using hal 24 (by decide)
        have g25 : DataW.trod enc Tryz.prog W base sp held m 22 [a25] = some z25 := by simpa [co_u64] using hal 25 (by decide)
        have g26 : DataW.trod enc Tryz.prog W base sp held m 22 [a26] = some z26 := by simpa [co_u64] using hal 26 (by decide)
        have g27 : DataW.trod enc Tryz.prog W base sp held m 22 [a27] = some z27 := by simpa [co_u64] using hal 27 (by decide)
        have g28 : DataW.trod enc Tryz.prog W base sp held m 22 [a28] = some z28 := by simpa [co_u64] using hal 28 (by decide)
        have g29 : DataW.trod enc Tryz.prog W base sp held m 22 [a29] = some z29 := by simpa [co_u64] using hal 29 (by decide)
        have g30 : DataW.trod enc Tryz.prog W base sp held m 22 [a30] = some z30 := by simpa [co_u64] using hal 30 (by decide)
        have g31 : DataW.trod enc Tryz.prog W base sp held m 22 [a31] = some z31 := by simpa [co_u64] using hal 31 (by decide)
        have g32 : DataW.trod enc Tryz.prog W base sp held n 22 [a32] = some y1 := by simpa [co_u64, co_bool, Value.cells] using hfl 1 _ rfl
        have g33 : DataW.trod enc Tryz.prog W base sp held n 4 [a33] = some y2 := by simpa [co_u64, co_bool, Value.cells] using hfl 2 _ rfl
        have g34 : DataW.trod enc Tryz.prog W base sp held n 4 [a34] = some y3 := by simpa [co_u64, co_bool, Value.cells] using hfl 3 _ rfl
        have g35 : DataW.trod enc Tryz.prog W base sp held n 4 [a35] = some y4 := by simpa [co_u64, co_bool, Value.cells] using hfl 4 _ rfl
        have g36 : DataW.trod enc Tryz.prog W base sp held n 4 [a36] = some y5 := by simpa [co_u64, co_bool, Value.cells] using hfl 5 _ rfl
        have g37 : DataW.trod enc Tryz.prog W base sp held n 4 [a37] = some y6 := by simpa [co_u64, co_bool, Value.cells] using hfl 6 _ rfl
        have g38 : DataW.trod enc Tryz.prog W base sp held n 4 [a38] = some y7 := by simpa [co_u64, co_bool, Value.cells] using hfl 7 _ rfl
        have g39 : DataW.trod enc Tryz.prog W base sp held n 4 [a39] = some y8 := by simpa [co_u64, co_bool, Value.cells] using hfl 8 _ rfl
        have g40 : DataW.trod enc Tryz.prog W base sp held n 22 [a40] = some y9 := by simpa [co_u64, co_bool, Value.cells] using hfl 9 _ rfl
        have g41 : DataW.trod enc Tryz.prog W base sp held n 22 [a41] = some y10 := by simpa [co_u64, co_bool, Value.cells] using hfl 10 _ rfl
        have g42 : DataW.trod enc Tryz.prog W base sp held n 22 [a42] = some y11 := by simpa [co_u64, co_bool, Value.cells] using hfl 11 _ rfl
        have g43 : DataW.trod enc Tryz.prog W base sp held n 22 [a43] = some y12 := by simpa [co_u64, co_bool, Value.cells] using hfl 12 _ rfl
        have g44 : DataW.trod enc Tryz.prog W base sp held n 22 [a44] = some y13 := by simpa [co_u64, co_bool, Value.cells] using hfl 13 _ rfl
        have g45 : DataW.trod enc Tryz.prog W base sp held n 22 [a45] = some y14 := by simpa [co_u64, co_bool, Value.cells] using hfl 14 _ rfl
        have g46 : DataW.trod enc Tryz.prog W base sp held n 22 [a46] = some y15 := by simpa [co_u64, co_bool, Value.cells] using hfl 15 _ rfl
        have g47 : DataW.trod enc Tryz.prog W base sp held n 22 [a47] = some y16 := by simpa [co_u64, co_bool, Value.cells] using hfl 16 _ rfl
        have g48 : DataW.trod enc Tryz.prog W base sp held n 22 [a48] = some y17 := by simpa [co_u64, co_bool, Value.cells] using hfl 17 _ rfl
        obtain ⟨n0, e0, _, w0⟩ := DataW.trod_int Tryz.underlying22 g0
        obtain ⟨n1, e1, _, w1⟩ := DataW.trod_int Tryz.underlying22 g1
        obtain ⟨n2, e2, _, w2⟩ := DataW.trod_int Tryz.underlying22 g2
        obtain ⟨n3, e3, _, w3⟩ := DataW.trod_int Tryz.underlying22 g3
        obtain ⟨n4, e4, _, w4⟩ := DataW.trod_int Tryz.underlying22 g4
        obtain ⟨n5, e5, _, w5⟩ := DataW.trod_int Tryz.underlying22 g5
        obtain ⟨n6, e6, _, w6⟩ := DataW.trod_int Tryz.underlying22 g6
        obtain ⟨n7, e7, _, w7⟩ := DataW.trod_int Tryz.underlying22 g7
        obtain ⟨n8, e8, _, w8⟩ := DataW.trod_int Tryz.underlying22 g8
        obtain ⟨n9, e9, _, w9⟩ := DataW.trod_int Tryz.underlying22 g9
        obtain ⟨n10, e10, _, w10⟩ := DataW.trod_int Tryz.underlying22 g10
        obtain ⟨n11, e11, _, w11⟩ := DataW.trod_int Tryz.underlying22 g11
        obtain ⟨n12, e12, _, w12⟩ := DataW.trod_int Tryz.underlying22 g12
        obtain ⟨n13, e13, _, w13⟩ := DataW.trod_int Tryz.underlying22 g13
        obtain ⟨n14, e14, _, w14⟩ := DataW.trod_int Tryz.underlying22 g14
        obtain ⟨n15, e15, _, w15⟩ := DataW.trod_int Tryz.underlying22 g15
        obtain ⟨n16, e16, _, w16⟩ := DataW.trod_int Tryz.underlying22 g16
        obtain ⟨n17, e17, _, w17⟩ := DataW.trod_int Tryz.underlying22 g17
        obtain ⟨n18, e18, _, w18⟩ := DataW.trod_int Tryz.underlying22 g18
        obtain ⟨n19, e19, _, w19⟩ := DataW.trod_int Tryz.underlying22 g19
        obtain ⟨n20, e20, _, w20⟩ := DataW.trod_int Tryz.underlying22 g20
        obtain ⟨n21, e21, _, w21⟩ := DataW.trod_int Tryz.underlying22 g21
        obtain ⟨n22, e22, _, w22⟩ := DataW.trod_int Tryz.underlying22 g22
        obtain ⟨n23, e23, _, w23⟩ := DataW.trod_int Tryz.underlying22 g23
        obtain ⟨n24, e24, _, w24⟩ := DataW.trod_int Tryz.underlying22 g24
        obtain ⟨n25, e25, _, w25⟩ := DataW.trod_int Tryz.underlying22 g25
        obtain ⟨n26, e26, _, w26⟩ := DataW.trod_int Tryz.underlying22 g26
        obtain ⟨n27, e27, _, w27⟩ := DataW.trod_int Tryz.underlying22 g27
        obtain ⟨n28, e28, _, w28⟩ := DataW.trod_int Tryz.underlying22 g28
        obtain ⟨n29, e29, _, w29⟩ := DataW.trod_int Tryz.underlying22 g29
        obtain ⟨n30, e30, _, w30⟩ := DataW.trod_int Tryz.underlying22 g30
        obtain ⟨n31, e31, _, w31⟩ := DataW.trod_int Tryz.underlying22 g31
        obtain ⟨n32, e32, _, w32⟩ := DataW.trod_int Tryz.underlying22 g32
        obtain ⟨n33, e33, _⟩ := DataW.trod_bool Tryz.underlying4 g33
        obtain ⟨n34, e34, _⟩ := DataW.trod_bool Tryz.underlying4 g34
        obtain ⟨n35, e35, _⟩ := DataW.trod_bool Tryz.underlying4 g35
        obtain ⟨n36, e36, _⟩ := DataW.trod_bool Tryz.underlying4 g36
        obtain ⟨n37, e37, _⟩ := DataW.trod_bool Tryz.underlying4 g37
        obtain ⟨n38, e38, _⟩ := DataW.trod_bool Tryz.underlying4 g38
        obtain ⟨n39, e39, _⟩ := DataW.trod_bool Tryz.underlying4 g39
        obtain ⟨n40, e40, _, w40⟩ := DataW.trod_int Tryz.underlying22 g40
        obtain ⟨n41, e41, _, w41⟩ := DataW.trod_int Tryz.underlying22 g41
        obtain ⟨n42, e42, _, w42⟩ := DataW.trod_int Tryz.underlying22 g42
        obtain ⟨n43, e43, _, w43⟩ := DataW.trod_int Tryz.underlying22 g43
        obtain ⟨n44, e44, _, w44⟩ := DataW.trod_int Tryz.underlying22 g44
        obtain ⟨n45, e45, _, w45⟩ := DataW.trod_int Tryz.underlying22 g45
        obtain ⟨n46, e46, _, w46⟩ := DataW.trod_int Tryz.underlying22 g46
        obtain ⟨n47, e47, _, w47⟩ := DataW.trod_int Tryz.underlying22 g47
        obtain ⟨n48, e48, _, w48⟩ := DataW.trod_int Tryz.underlying22 g48
        simp only [List.cons.injEq, and_true] at e0 e1 e2 e3 e4 e5 e6 e7 e8 e9 e10 e11 e12 e13 e14 e15 e16 e17 e18 e19 e20 e21 e22 e23 e24 e25 e26 e27 e28 e29 e30 e31 e32 e33 e34 e35 e36 e37 e38 e39 e40 e41 e42 e43 e44 e45 e46 e47 e48
        subst e0 e1 e2 e3 e4 e5 e6 e7 e8 e9 e10 e11 e12 e13 e14 e15 e16 e17 e18 e19 e20 e21 e22 e23 e24 e25 e26 e27 e28 e29 e30 e31 e32 e33 e34 e35 e36 e37 e38 e39 e40 e41 e42 e43 e44 e45 e46 e47 e48
        refine ⟨{ x := fun k => match k with | 0 => n0 | 1 => n1 | 2 => n2 | 3 => n3 | 4 => n4 | 5 => n5 | 6 => n6 | 7 => n7 | 8 => n8 | 9 => n9 | 10 => n10 | 11 => n11 | 12 => n12 | 13 => n13 | 14 => n14 | 15 => n15 | 16 => n16 | 17 => n17 | 18 => n18 | 19 => n19 | 20 => n20 | 21 => n21 | 22 => n22 | 23 => n23 | 24 => n24 | 25 => n25 | 26 => n26 | 27 => n27 | 28 => n28 | 29 => n29 | 30 => n30 | 31 => n31 | _ => 0, pc := n32, user := n33, on := n34, spie := n35, spp := n36, sum := n37, mxr := n38, rsv := n39, stvec := n40, sscr := n41, sepc := n42, scause := n43, stval := n44, sie := n45, sip := n46, satp := n47, resv := n48 }, rfl, fun i hi => ?_, bd_u64 w32, bd_u64 w40, bd_u64 w41, bd_u64 w42, bd_u64 w43, bd_u64 w44, bd_u64 w45, bd_u64 w46, bd_u64 w47, bd_u64 w48⟩
        obtain h1 | h1 | h1 | h1 | h1 | h1 | h1 | h1 | h1 | h1 | h1 | h1 | h1 | h1 | h1 | h1 | h1 | h1 | h1 | h1 | h1 | h1 | h1 | h1 | h1 | h1 | h1 | h1 | h1 | h1 | h1 | h1 : i = 0 ∨ i = 1 ∨ i = 2 ∨ i = 3 ∨ i = 4 ∨ i = 5 ∨ i = 6 ∨ i = 7 ∨ i = 8 ∨ i = 9 ∨ i = 10 ∨ i = 11 ∨ i = 12 ∨ i = 13 ∨ i = 14 ∨ i = 15 ∨ i = 16 ∨ i = 17 ∨ i = 18 ∨ i = 19 ∨ i = 20 ∨ i = 21 ∨ i = 22 ∨ i = 23 ∨ i = 24 ∨ i = 25 ∨ i = 26 ∨ i = 27 ∨ i = 28 ∨ i = 29 ∨ i = 30 ∨ i = 31 := by omega
        · subst h1; exact bd_u64 w0
        · subst h1; exact bd_u64 w1
        · subst h1; exact bd_u64 w2
        · subst h1; exact bd_u64 w3
        · subst h1; exact bd_u64 w4
        · subst h1; exact bd_u64 w5
        · subst h1; exact bd_u64 w6
        · subst h1; exact bd_u64 w7
        · subst h1; exact bd_u64 w8
        · subst h1; exact bd_u64 w9
        · subst h1; exact bd_u64 w10
        · subst h1; exact bd_u64 w11
        · subst h1; exact bd_u64 w12
        · subst h1; exact bd_u64 w13
        · subst h1; exact bd_u64 w14
        · subst h1; exact bd_u64 w15
        · subst h1; exact bd_u64 w16
        · subst h1; exact bd_u64 w17
        · subst h1; exact bd_u64 w18
        · subst h1; exact bd_u64 w19
        · subst h1; exact bd_u64 w20
        · subst h1; exact bd_u64 w21
        · subst h1; exact bd_u64 w22
        · subst h1; exact bd_u64 w23
        · subst h1; exact bd_u64 w24
        · subst h1; exact bd_u64 w25
        · subst h1; exact bd_u64 w26
        · subst h1; exact bd_u64 w27
        · subst h1; exact bd_u64 w28
        · subst h1; exact bd_u64 w29
        · subst h1; exact bd_u64 w30
        · subst h1; exact bd_u64 w31
end
end Go.Proofs.YthkodjkkcgdmfaaGreat.Hart
end
section
namespace Go.Proofs.YthkodjkkcgdmfaaGreat.Hart
open Go Go.RowKit Go.Proofs.YthkodjkkcgdmfaaGreat.Step
set_option linter.unusedVariables false
theorem misaligned_row (h : Hrt) (size addr : Int) (st : Bool) (W : World) (hf : Fit h) (hs : (Lit.int .i64 size).wf = true) (ha : (Lit.int .u64 addr).wf = true) : Calls Tryz.prog 10 #[.agg (Hart.hc h), .int .i64 size, .int .u64 addr, .bool st] W fun e w' => e = .returned (.bool true) ∧ Below W.heap.size W w' :=
  misaligned_any h hf size addr st (by have := bounds_i64 hs; omega) (bd_u64 ha) W
end Go.Proofs.YthkodjkkcgdmfaaGreat.Hart
end
section
namespace Go.Proofs.YthkodjkkcgdmfaaGreat.Hart
open Go Go.RowKit Go.Proofs.YthkodjkkcgdmfaaGreat.Step Go.Proofs.YthkodjkkcgdmfaaGreat.Enc Go.Proofs.YthkodjkkcgdmfaaGreat.Kn
open Go.Proofs.YthkodjkkcgdmfaaGreat.Mem (Ram Grow hasB newB wholeB num wr Rd fl Arg lst)
open Go.Proofs.YthkodjkkcgdmfaaGreat.Duo (Duo RdC cm size_two)
set_option linter.unusedVariables false
set_option linter.unusedSimpArgs false
set_option maxRecDepth 100000
theorem DK.rwrite {W w : World} {h1 h2 n : Nat} {base : Int} {m1 m2 : Nat → Int} {F1 F2 : Nat → Prop} {L : Blks} (d : DK W w h1 h2 base n m1 m2 F1 F2 L) (addr v z : Int) (s : Nat) (hz : z = s) (ha : 0 ≤ addr ∧ addr < 18446744073709551616) (hv : 0 ≤ v ∧ v < 18446744073709551616) (hw : wholeB s = true) (hh : hasB base n addr s = true) :
    Calls Tryz.prog 29 #[.pointer (some ⟨h2, 0, none⟩), .int .u64 addr, .int .i64 z, .int .u64 v] w fun e w' => e = .returned (.bool true) ∧ ∃ F2', DK W w' h1 h2 base n m1 (wr m2 (addr - base).toNat s v) F1 F2' L := by
  refine (Duo.rwrite_z d.two addr v z s hz ha hv hw hh).mono ?_
  rintro e w' ⟨rfl, r, m⟩
  have hm : Mod (fun k => F1 k ∨ F2 k) w w' := m.mono fun k _ h => .inr h
  refine ⟨rfl, _, d.turn (d.one.mod m fun k h1 h2 => d.apart k h1 h2) r (fun k h1 h2 => ?_) (fun k _ h => h) (fun k hk h => ?_) hm⟩
  · rcases h2 with h2 | h2
    · exact d.apart k h1 h2
    · have := d.one.bound k h1; omega
  · rcases h with h | h
    · exact h
    · omega
theorem sc_w : wordP ⟨16, 0, 7, 5, 6, 0, 8, false⟩ = 409121711 := by kernel_rfl
theorem sc_d : dec 409121711 = some ⟨16, 0, 7, 5, 6, 0, 8, false⟩ := by kernel_rfl
theorem one_sc {gs : Nat} {T : TypeId} {W : World} (hb : Blk W gs #[.int .i64 9, .int .u64 1] T) : Calls Tryz.prog 22 #[.agg #[.int .i64 16, .int .i64 0, .int .i64 7, .int .i64 5, .int .i64 6, .int .i64 0, .int .i64 8, .bool false], .slice (some ⟨gs, 0, none⟩) 1 1] W fun e w' => ∃ gc gt h1 h2 F1 F2, e = .returned (.tuple #[.pointer (some ⟨gc, 0, none⟩), .agg #[.pointer (some ⟨h1, 0, none⟩), .pointer (some ⟨h2, 0, none⟩)], .bool true]) ∧ DK W w' h1 h2 2147483648 1 (wr (cm 1 (fun _ => (9, 1)) 1) 0 4 409121711) (wr (cm 1 (fun _ => (9, 1)) 1) 0 4 409121711) F1 F2 ((gc, ccg h1 (.pointer (some ⟨gt, 0, none⟩)) 0 0 0 0 (.map none), TC) :: []) := by
  have hA : RdC W (some ⟨gs, 0, none⟩) 1 (fun _ => (9, 1)) (· < W.heap.size) := fun i hi => by
    obtain rfl : i = 0 := by omega
    exact ⟨⟨gs, 0, none⟩, rfl, hb.lt, (hb.cell 0).trans rfl, (hb.cell 1).trans rfl, by decide, by decide⟩
  have h := one_any W ⟨16, 0, 7, 5, 6, 0, 8, false⟩ (by unfold InR; decide) (by rw [sc_w]; exact ⟨by decide, by decide⟩) (by rw [sc_w]; exact sc_d) (Lib.hid (by rw [sc_w]; exact rDec_47_3 409121711 ⟨by decide, by decide⟩ (by kernel_rfl) (by kernel_rfl))) (some ⟨gs, 0, none⟩) 1 1 (fun _ => (9, 1)) hA (by decide)
  rw [sc_w] at h
  refine h.mono fun e w' q => ?_
  obtain ⟨gc, gt, h1, h2, F1, F2, rfl, d⟩ := q
  exact ⟨gc, gt, h1, h2, F1, F2, rfl, d.solo⟩
def scY (C : Hrt) (va : Int) : Hrt := (zeroX (rdP { storeP (decP (newS 0 0 (ord C)) 409121711 ⟨16, 0, 7, 5, 6, 0, 8, false⟩) va with h := { (storeP (decP (newS 0 0 (ord C)) 409121711 ⟨16, 0, 7, 5, 6, 0, 8, false⟩) va).h with rsv := false } } 7 0)).h
def scN (C : Hrt) : Hrt := (zeroX (rdP { decP (newS 0 0 (ord C)) 409121711 ⟨16, 0, 7, 5, 6, 0, 8, false⟩ with h := { (decP (newS 0 0 (ord C)) 409121711 ⟨16, 0, 7, 5, 6, 0, 8, false⟩).h with rsv := false } } 7 1)).h
theorem step_scy {W : World} {gc gm : Nat} {tv : Value} {m0 : Nat → Int} {F : Nat → Prop} (hk : Kor W gc gm tv 0 2147483648 1 (wr m0 0 4 409121711) F) (C : Hrt) (hf : Fit C) (hpc : C.pc = 2147483648) (hsie : C.sie = 0) (hsat : C.satp = 0) (va v : Int) (h5 : C.x 5 = va) (h6 : C.x 6 = v) (hva : U64 va) (hal : va % 8 = 0) (hh : hasB 2147483648 1 va 8 = true) (hrs : C.rsv = true) (hrv : C.resv = va) :
    Calls Tryz.prog 23 #[.pointer (some ⟨gc, 0, none⟩), .agg (hc C), .int .u64 0] W fun e w' => e = .returned (.tuple #[.agg (hc (scY C va)), .agg #[.int .i64 0, .int .i64 0, .int .u64 0, .int .u64 va, .bool false, .bool true]]) ∧ ∃ F', Kor w' gc gm tv 0 2147483648 1 (wr (wr m0 0 4 409121711) (va - 2147483648).toNat 8 v) F' ∧ Mod (fun k => k = gc ∨ F k) W w' ∧ ∀ k, F' k → F k ∨ W.heap.size ≤ k := by
  refine step_sc (s2 := rdP { storeP (decP (newS gc 0 (ord C)) 409121711 ⟨16, 0, 7, 5, 6, 0, 8, false⟩) va with h := { (storeP (decP (newS gc 0 (ord C)) 409121711 ⟨16, 0, 7, 5, 6, 0, 8, false⟩) va).h with rsv := false } } 7 0) (mem2 := (wr (wr m0 0 4 409121711) (va - 2147483648).toNat 8 v)) hk C hf 0 hpc hsie hsat ⟨by decide, by decide⟩ sc_d (Lib.hid (Dec_47_3 409121711 ⟨by decide, by decide⟩ (by kernel_rfl) (by kernel_rfl))) rfl fun W' gs r F' y => ?_
  have x5 : xup C.x 0 0 5 = va := (xup_ne (i := 0) (j := 5) C.x 0 (by decide)).trans h5
  have x6 : xup C.x 0 0 6 = v := (xup_ne (i := 0) (j := 6) C.x 0 (by decide)).trans h6
  have q := sc_yes y (ord_fit hf) (show (ord C).satp / 1152921504606846976 = 0 by rw [show (ord C).satp = 0 from hsat]; rfl) (show U64 (ord C).satp by rw [show (ord C).satp = 0 from hsat]; exact ⟨by decide, by decide⟩) (nd := 7) rfl (by decide) (n1 := 5) rfl (by decide) (n2 := 6) rfl (by decide) (k := 8) rfl (by decide) rfl (fun i hi => (ord_fit hf).x i hi) va x5.symm hva hal hh hrs hrv
  rw [show (decP (newS gc 0 (ord C)) 409121711 ⟨16, 0, 7, 5, 6, 0, 8, false⟩).was.x 6 = v from x6] at q
  exact q
theorem step_scna {W : World} {gc gm : Nat} {tv : Value} {m0 : Nat → Int} {F : Nat → Prop} (hk : Kor W gc gm tv 0 2147483648 1 (wr m0 0 4 409121711) F) (C : Hrt) (hf : Fit C) (hpc : C.pc = 2147483648) (hsie : C.sie = 0) (hsat : C.satp = 0) (va v : Int) (h5 : C.x 5 = va) (h6 : C.x 6 = v) (hva : U64 va) (hal : va % 8 = 0) (hh : hasB 2147483648 1 va 8 = true) (hrs : C.rsv = false) :
    Calls Tryz.prog 23 #[.pointer (some ⟨gc, 0, none⟩), .agg (hc C), .int .u64 0] W fun e w' => e = .returned (.tuple #[.agg (hc (scN C)), .agg #[.int .i64 0, .int .i64 0, .int .u64 0, .int .u64 0, .bool false, .bool false]]) ∧ ∃ F', Kor w' gc gm tv 0 2147483648 1 (wr m0 0 4 409121711) F' ∧ Mod (fun k => k = gc ∨ F k) W w' ∧ ∀ k, F' k → F k ∨ W.heap.size ≤ k := by
  refine step_sc (s2 := rdP { decP (newS gc 0 (ord C)) 409121711 ⟨16, 0, 7, 5, 6, 0, 8, false⟩ with h := { (decP (newS gc 0 (ord C)) 409121711 ⟨16, 0, 7, 5, 6, 0, 8, false⟩).h with rsv := false } } 7 1) (mem2 := (wr m0 0 4 409121711)) hk C hf 0 hpc hsie hsat ⟨by decide, by decide⟩ sc_d (Lib.hid (Dec_47_3 409121711 ⟨by decide, by decide⟩ (by kernel_rfl) (by kernel_rfl))) rfl fun W' gs r F' y => ?_
  have x5 : xup C.x 0 0 5 = va := (xup_ne (i := 0) (j := 5) C.x 0 (by decide)).trans h5
  have x6 : xup C.x 0 0 6 = v := (xup_ne (i := 0) (j := 6) C.x 0 (by decide)).trans h6
  have q := sc_no_a y (ord_fit hf) (show (ord C).satp / 1152921504606846976 = 0 by rw [show (ord C).satp = 0 from hsat]; rfl) (show U64 (ord C).satp by rw [show (ord C).satp = 0 from hsat]; exact ⟨by decide, by decide⟩) (nd := 7) rfl (by decide) (n1 := 5) rfl (by decide) (n2 := 6) rfl (by decide) (k := 8) rfl (by decide) rfl (fun i hi => (ord_fit hf).x i hi) va x5.symm hva hal hh hrs
  
  exact q
theorem step_scnb {W : World} {gc gm : Nat} {tv : Value} {m0 : Nat → Int} {F : Nat → Prop} (hk : Kor W gc gm tv 0 2147483648 1 (wr m0 0 4 409121711) F) (C : Hrt) (hf : Fit C) (hpc : C.pc = 2147483648) (hsie : C.sie = 0) (hsat : C.satp = 0) (va v : Int) (h5 : C.x 5 = va) (h6 : C.x 6 = v) (hva : U64 va) (hal : va % 8 = 0) (hh : hasB 2147483648 1 va 8 = true) (hrs : C.rsv = true) (hrv : ¬ C.resv = va) :
    Calls Tryz.prog 23 #[.pointer (some ⟨gc, 0, none⟩), .agg (hc C), .int .u64 0] W fun e w' => e = .returned (.tuple #[.agg (hc (scN C)), .agg #[.int .i64 0, .int .i64 0, .int .u64 0, .int .u64 0, .bool false, .bool false]]) ∧ ∃ F', Kor w' gc gm tv 0 2147483648 1 (wr m0 0 4 409121711) F' ∧ Mod (fun k => k = gc ∨ F k) W w' ∧ ∀ k, F' k → F k ∨ W.heap.size ≤ k := by
  refine step_sc (s2 := rdP { decP (newS gc 0 (ord C)) 409121711 ⟨16, 0, 7, 5, 6, 0, 8, false⟩ with h := { (decP (newS gc 0 (ord C)) 409121711 ⟨16, 0, 7, 5, 6, 0, 8, false⟩).h with rsv := false } } 7 1) (mem2 := (wr m0 0 4 409121711)) hk C hf 0 hpc hsie hsat ⟨by decide, by decide⟩ sc_d (Lib.hid (Dec_47_3 409121711 ⟨by decide, by decide⟩ (by kernel_rfl) (by kernel_rfl))) rfl fun W' gs r F' y => ?_
  have x5 : xup C.x 0 0 5 = va := (xup_ne (i := 0) (j := 5) C.x 0 (by decide)).trans h5
  have x6 : xup C.x 0 0 6 = v := (xup_ne (i := 0) (j := 6) C.x 0 (by decide)).trans h6
  have q := sc_no_b y (ord_fit hf) (show (ord C).satp / 1152921504606846976 = 0 by rw [show (ord C).satp = 0 from hsat]; rfl) (show U64 (ord C).satp by rw [show (ord C).satp = 0 from hsat]; exact ⟨by decide, by decide⟩) (nd := 7) rfl (by decide) (n1 := 5) rfl (by decide) (n2 := 6) rfl (by decide) (k := 8) rfl (by decide) rfl (fun i hi => (ord_fit hf).x i hi) va x5.symm hva hal hh hrs hrv
  
  exact q
set_option maxHeartbeats 8000000 in
theorem res_law_y (h : Hrt) (hf : Fit h) (at_ wh v p p2 : Int) (hp : 0 ≤ p ∧ p < 100)  (hv : 0 ≤ v ∧ v < 18446744073709551616)  (TP1 : Hid (∀ w, Calls Tryz.prog 25 #[.int .i64 at_, .int .i64 100] w fun e w' => e = .returned (.int .i64 p) ∧ w = w')) (TP2 : Hid (∀ w, Calls Tryz.prog 25 #[.int .i64 wh, .int .i64 100] w fun e w' => e = .returned (.int .i64 p) ∧ w = w')) (W : World) : Calls Tryz.prog 11 #[.agg (hc h), .int .i64 at_, .bool true, .int .i64 wh, .int .u64 v] W fun e w' => e = .returned (.bool true) ∧ Below W.heap.size W w' := by
  have TC0 := Lib.hid (calm_any h hf)
  obtain ⟨a, ea⟩ : ∃ a, a = 2147483712 + 8 * p := ⟨_, rfl⟩
  have ha : 0 ≤ a ∧ a < 18446744073709551616 := by omega
  have hh : hasB 2147483648 1 a 8 = true := by simp only [hasB, decide_eq_true_eq]; omega
  have hal : a % 8 = 0 := by omega
  have q1 : IntKind.i64.wrap (8 * p) = 8 * p := IntWalk.i64_in _ (by omega)
  have q2 : IntKind.i64.wrap (2147483712 + 8 * p) = a := by rw [ea]; exact IntWalk.i64_in _ (by omega)
  have q3 : IntKind.u64.wrap a = a := IntWalk.u64_in _ (by omega)
  have F0 := calm_fit hf
  have F : Fit { calmH h with x := xup (xup (calmH h).x 5 a) 6 v, rsv := true, resv := a } := ⟨fun i hi => by
    show U64 (xup (xup (calmH h).x 5 a) 6 v i)
    unfold xup
    split
    · exact ⟨hv.1, hv.2⟩
    · split
      · exact ⟨ha.1, ha.2⟩
      · exact F0.x i hi, F0.pc, F0.stvec, F0.sscr, F0.sepc, F0.scause, F0.stval, F0.sie, F0.sip, F0.satp, ⟨ha.1, ha.2⟩⟩
  have TS := Lib.hid (fun (X : World) (gc gm : Nat) (tv : Value) (m0 : Nat → Int) (F1 : Nat → Prop) (hk : Kor X gc gm tv 0 2147483648 1 (wr m0 0 4 409121711) F1) => step_scy hk _ F rfl rfl rfl a v (show xup (xup (calmH h).x 5 a) 6 v 5 = a from rfl) (show xup (xup (calmH h).x 5 a) 6 v 6 = v from rfl) ⟨ha.1, ha.2⟩ hal hh rfl rfl)
  clear F F0
  generalize calmH h = C at *
  obtain ⟨H2, eH⟩ : ∃ H, H = scY { C with x := xup (xup C.x 5 a) 6 v, rsv := true, resv := a } a := ⟨_, rfl⟩
  have r7 : (hc H2)[7]? = some (.int .u64 0) := by rw [eH]; rfl
  have r39 : (hc H2)[39]? = some (.bool false) := by rw [eH]; rfl
  rw [← eH] at TS
  clear eH ea hp hal hf  
  go_enter Tryz.func11, Tryz.ntmps11
  have ST := Lib.hid (Kn.nil (S := Step.Nil) (W := W))
  go_wp2_with (first
    | ((with_reducible refine Step.gate_box (t := 25) rfl ?_); refine Step.fresh (cs := hc h) (T := 25) rfl ?hr ?_; (case hr => first | (go_simp; done) | (go_simp; rfl)); intro g5 w1 b hg hb; replace ST := Lib.hid (ST.out.made b hg hb); clear b hb; clear hg)
    | ((with_reducible refine Step.gate_load (t := 25) rfl ?_); refine Step.loadAll ST.out.at0 rfl rfl rfl Tryz.underlying25 rfl (size_hart _) ?_)
    | (go_at_call 24; (with_reducible refine (TC0.out _).mono ?_); rintro e w' ⟨rfl, hb⟩; replace ST := Lib.hid (ST.out.call hb); clear hb)
    | ((with_reducible refine Step.gate_store (t := 25) rfl ?_); refine Step.storeAll ST.out.at0 rfl rfl rfl rfl rfl (size_hart _) rfl (hc_all _) ?_; intro w3 nb m; replace ST := Lib.hid (ST.out.set0 nb m); clear nb m)
    | (go_at_call 25; (with_reducible refine (TP1.out _).mono ?_); rintro e w' ⟨rfl, rfl⟩)
    | (go_at_call 25; (with_reducible refine (TP2.out _).mono ?_); rintro e w' ⟨rfl, rfl⟩)
    | ((with_reducible refine Step.gate_store (t := 22) rfl ?_); refine Step.store ST.out.at0 rfl rfl rfl rfl rfl pl_u64 rfl rfl ?_; intro w3 nb m; simp [go_sem, set_x5, set_x6, set_resv] at nb; replace ST := Lib.hid (ST.out.set0 nb m); clear nb m)
    | ((with_reducible refine Step.gate_store (t := 4) rfl ?_); refine Step.store ST.out.at0 rfl rfl rfl rfl rfl pl_bool rfl rfl ?_; intro w3 nb m; simp [go_sem, set_rsv] at nb; replace ST := Lib.hid (ST.out.set0 nb m); clear nb m)
    | ((with_reducible refine Step.gate_build (t := 64) rfl ?_); refine Step.freshSlice (cs := #[.int .i64 9, .int .u64 1]) (T := 63) (n := 1) (m := 1) rfl ?hr ?_; (case hr => first | (go_simp; done) | (go_simp; rfl)); intro gs w1 b hg hb; replace ST := Lib.hid (ST.out.made b hg hb); clear b hg hb)
    | (go_at_call 22; (with_reducible refine (one_sc ST.out.at0).mono ?_); rintro e w9 ⟨gc, gt, h1, h2, F1, F2, rfl, d⟩; replace ST := Lib.hid (DK.join ST.out d); clear d)
    | ((with_reducible refine Step.gate_alloc (t := 40) rfl ?_); refine Step.freshAlloc rfl rfl (Duo.alloc_agg Duo.zero_two) ?_; intro g13 w2 b hg hb; replace ST := Lib.hid (ST.out.made b hg hb); clear b hb hg)
    | ((with_reducible refine Step.gate_store (t := 40) rfl ?_); refine Step.storeAll (vs := #[.pointer (some ⟨h1, 0, none⟩), .pointer (some ⟨h2, 0, none⟩)]) ST.out.kn.at0 rfl rfl rfl rfl rfl size_two rfl rfl ?_; intro w3 nb m; replace ST := Lib.hid (ST.out.set (ST.out.kn.set0 nb m) m ⟨_, List.mem_of_getElem? (i := 0) rfl, rfl⟩ rfl); clear nb m)
    | ((with_reducible refine Step.gate_load (t := 25) rfl ?_); refine Step.loadAll ST.out.kn.at3 rfl rfl rfl Tryz.underlying25 rfl (size_hart _) ?_)
    | (go_at_call 23; (with_reducible refine (TS.out _ _ _ _ _ _ ST.out.core1).mono ?_); rintro e w10 ⟨rfl, F3, hk, m, hF⟩; replace ST := Lib.hid (ST.out.step1 hk m hF); clear hk m hF)
    | ((with_reducible refine Step.gate_alloc (t := 25) rfl ?_); refine Step.freshAlloc rfl rfl (alloc_agg zero_hart) ?_; intro g15 w2 b hg hb; replace ST := Lib.hid (ST.out.made b hg hb); clear b hb hg)
    | ((with_reducible refine Step.gate_alloc (t := 46) rfl ?_); refine Step.freshAlloc rfl rfl (alloc_agg zero_ev) ?_; intro g16 w2 b hg hb; replace ST := Lib.hid (ST.out.made b hg hb); clear b hb hg)
    | ((with_reducible refine Step.gate_store (t := 25) rfl ?_); refine Step.storeAll ST.out.kn.at1 rfl rfl rfl rfl rfl (size_hart _) rfl (hc_all _) ?_; intro w3 nb m; replace ST := Lib.hid (ST.out.set (ST.out.kn.set1 nb m) m ⟨_, List.mem_of_getElem? (i := 1) rfl, rfl⟩ rfl); clear nb m)
    | ((with_reducible refine Step.gate_store (t := 46) rfl ?_); refine Step.storeAll (vs := #[.int .i64 0, .int .i64 0, .int .u64 0, .int .u64 a, .bool false, .bool true]) ST.out.kn.at0 rfl rfl rfl rfl rfl size_ev rfl rfl ?_; intro w3 nb m; replace ST := Lib.hid (ST.out.set (ST.out.kn.set0 nb m) m ⟨_, List.mem_of_getElem? (i := 0) rfl, rfl⟩ rfl); clear nb m)
    | ((with_reducible refine Step.gate_load (t := 46) rfl ?_); refine Step.loadAll ST.out.kn.at0 rfl rfl rfl Tryz.underlying46 rfl size_ev ?_)
    | ((with_reducible refine Step.gate_load (t := 22) rfl ?_); refine Step.loadG ST.out.kn.at1 rfl rfl rfl pl_u64 r7 ?_)
    | ((with_reducible refine Step.gate_load (t := 4) rfl ?_); refine Step.loadG ST.out.kn.at1 rfl rfl rfl pl_bool r39 ?_)
    | ((with_reducible refine Step.gate_load (t := 22) rfl ?_); refine Step.loadG ST.out.kn.at4 rfl rfl rfl pl_u64 (hv_ok _ (by decide)) ?_; simp only [hv_x0, hv_pc, hv_user, hv_on, hv_spie, hv_spp, hv_sum, hv_mxr, hv_rsv, hv_stvec, hv_sscr, hv_sepc, hv_scause, hv_stval, hv_sie, hv_sip, hv_satp, hv_resv])
    | ((with_reducible refine Step.gate_load (t := 40) rfl ?_); refine loadAllW ST.out.kn.at2 rfl rfl rfl Tryz.underlying40 rfl size_two ?_)
    | ((with_reducible refine Step.gate_load (t := 38) rfl ?_); refine Step.loadG ST.out.kn.at2 rfl rfl rfl pl_pr3 rfl ?_)
    | (go_at_call 29; refine (DK.rwrite ST.out a v 8 8 rfl ha hv (by decide) hh).mono ?_; rintro e w10 ⟨rfl, F4, d⟩; replace ST := Lib.hid d; clear d)
    | (go_at_call 26; (with_reducible refine (same_dk ST.out).mono ?_); rintro e w' ⟨rfl, hb⟩; replace ST := Lib.hid (ST.out.call hb); clear hb)
    | (go_at_call 15; (with_reducible refine (awake_any _).mono ?_); rintro e w' ⟨rfl, hb⟩; replace ST := Lib.hid (ST.out.call hb); clear hb))
  all_goals go_ret
  all_goals exact ⟨rfl, ST.out.below⟩
set_option maxHeartbeats 8000000 in
theorem res_law_na (h : Hrt) (hf : Fit h) (at_ wh v p q : Int) (hp : 0 ≤ p ∧ p < 100) (hq : 0 ≤ q ∧ q < 100) (hv : 0 ≤ v ∧ v < 18446744073709551616)  (TP1 : Hid (∀ w, Calls Tryz.prog 25 #[.int .i64 at_, .int .i64 100] w fun e w' => e = .returned (.int .i64 p) ∧ w = w')) (TP2 : Hid (∀ w, Calls Tryz.prog 25 #[.int .i64 wh, .int .i64 100] w fun e w' => e = .returned (.int .i64 q) ∧ w = w')) (W : World) : Calls Tryz.prog 11 #[.agg (hc h), .int .i64 at_, .bool false, .int .i64 wh, .int .u64 v] W fun e w' => e = .returned (.bool true) ∧ Below W.heap.size W w' := by
  have TC0 := Lib.hid (calm_any h hf)
  obtain ⟨a, ea⟩ : ∃ a, a = 2147483712 + 8 * p := ⟨_, rfl⟩
  have ha : 0 ≤ a ∧ a < 18446744073709551616 := by omega
  have hh : hasB 2147483648 1 a 8 = true := by simp only [hasB, decide_eq_true_eq]; omega
  have hal : a % 8 = 0 := by omega
  have q1 : IntKind.i64.wrap (8 * p) = 8 * p := IntWalk.i64_in _ (by omega)
  have q2 : IntKind.i64.wrap (2147483712 + 8 * p) = a := by rw [ea]; exact IntWalk.i64_in _ (by omega)
  have q3 : IntKind.u64.wrap a = a := IntWalk.u64_in _ (by omega)
  obtain ⟨b, eb⟩ : ∃ b, b = 2147483712 + 8 * q := ⟨_, rfl⟩
  have hb : 0 ≤ b ∧ b < 18446744073709551616 := by omega
  have s1 : IntKind.i64.wrap (8 * q) = 8 * q := IntWalk.i64_in _ (by omega)
  have s2 : IntKind.i64.wrap (2147483712 + 8 * q) = b := by rw [eb]; exact IntWalk.i64_in _ (by omega)
  have s3 : IntKind.u64.wrap b = b := IntWalk.u64_in _ (by omega)
  have F0 := calm_fit hf
  have F : Fit { calmH h with x := xup (xup (calmH h).x 5 a) 6 v, rsv := false, resv := b } := ⟨fun i hi => by
    show U64 (xup (xup (calmH h).x 5 a) 6 v i)
    unfold xup
    split
    · exact ⟨hv.1, hv.2⟩
    · split
      · exact ⟨ha.1, ha.2⟩
      · exact F0.x i hi, F0.pc, F0.stvec, F0.sscr, F0.sepc, F0.scause, F0.stval, F0.sie, F0.sip, F0.satp, ⟨hb.1, hb.2⟩⟩
  have TS := Lib.hid (fun (X : World) (gc gm : Nat) (tv : Value) (m0 : Nat → Int) (F1 : Nat → Prop) (hk : Kor X gc gm tv 0 2147483648 1 (wr m0 0 4 409121711) F1) => step_scna hk _ F rfl rfl rfl a v (show xup (xup (calmH h).x 5 a) 6 v 5 = a from rfl) (show xup (xup (calmH h).x 5 a) 6 v 6 = v from rfl) ⟨ha.1, ha.2⟩ hal hh rfl)
  clear F F0
  generalize calmH h = C at *
  obtain ⟨H2, eH⟩ : ∃ H, H = scN { C with x := xup (xup C.x 5 a) 6 v, rsv := false, resv := b }  := ⟨_, rfl⟩
  have r7 : (hc H2)[7]? = some (.int .u64 1) := by rw [eH]; rfl
  have r39 : (hc H2)[39]? = some (.bool false) := by rw [eH]; rfl
  rw [← eH] at TS
  clear eH ea hp hal hf eb hb hq 
  go_enter Tryz.func11, Tryz.ntmps11
  have ST := Lib.hid (Kn.nil (S := Step.Nil) (W := W))
  go_wp2_with (first
    | ((with_reducible refine Step.gate_box (t := 25) rfl ?_); refine Step.fresh (cs := hc h) (T := 25) rfl ?hr ?_; (case hr => first | (go_simp; done) | (go_simp; rfl)); intro g5 w1 b hg hb; replace ST := Lib.hid (ST.out.made b hg hb); clear b hb; clear hg)
    | ((with_reducible refine Step.gate_load (t := 25) rfl ?_); refine Step.loadAll ST.out.at0 rfl rfl rfl Tryz.underlying25 rfl (size_hart _) ?_)
    | (go_at_call 24; (with_reducible refine (TC0.out _).mono ?_); rintro e w' ⟨rfl, hb⟩; replace ST := Lib.hid (ST.out.call hb); clear hb)
    | ((with_reducible refine Step.gate_store (t := 25) rfl ?_); refine Step.storeAll ST.out.at0 rfl rfl rfl rfl rfl (size_hart _) rfl (hc_all _) ?_; intro w3 nb m; replace ST := Lib.hid (ST.out.set0 nb m); clear nb m)
    | (go_at_call 25; (with_reducible refine (TP1.out _).mono ?_); rintro e w' ⟨rfl, rfl⟩)
    | (go_at_call 25; (with_reducible refine (TP2.out _).mono ?_); rintro e w' ⟨rfl, rfl⟩)
    | ((with_reducible refine Step.gate_store (t := 22) rfl ?_); refine Step.store ST.out.at0 rfl rfl rfl rfl rfl pl_u64 rfl rfl ?_; intro w3 nb m; simp [go_sem, set_x5, set_x6, set_resv] at nb; replace ST := Lib.hid (ST.out.set0 nb m); clear nb m)
    | ((with_reducible refine Step.gate_store (t := 4) rfl ?_); refine Step.store ST.out.at0 rfl rfl rfl rfl rfl pl_bool rfl rfl ?_; intro w3 nb m; simp [go_sem, set_rsv] at nb; replace ST := Lib.hid (ST.out.set0 nb m); clear nb m)
    | ((with_reducible refine Step.gate_build (t := 64) rfl ?_); refine Step.freshSlice (cs := #[.int .i64 9, .int .u64 1]) (T := 63) (n := 1) (m := 1) rfl ?hr ?_; (case hr => first | (go_simp; done) | (go_simp; rfl)); intro gs w1 b hg hb; replace ST := Lib.hid (ST.out.made b hg hb); clear b hg hb)
    | (go_at_call 22; (with_reducible refine (one_sc ST.out.at0).mono ?_); rintro e w9 ⟨gc, gt, h1, h2, F1, F2, rfl, d⟩; replace ST := Lib.hid (DK.join ST.out d); clear d)
    | ((with_reducible refine Step.gate_alloc (t := 40) rfl ?_); refine Step.freshAlloc rfl rfl (Duo.alloc_agg Duo.zero_two) ?_; intro g13 w2 b hg hb; replace ST := Lib.hid (ST.out.made b hg hb); clear b hb hg)
    | ((with_reducible refine Step.gate_store (t := 40) rfl ?_); refine Step.storeAll (vs := #[.pointer (some ⟨h1, 0, none⟩), .pointer (some ⟨h2, 0, none⟩)]) ST.out.kn.at0 rfl rfl rfl rfl rfl size_two rfl rfl ?_; intro w3 nb m; replace ST := Lib.hid (ST.out.set (ST.out.kn.set0 nb m) m ⟨_, List.mem_of_getElem? (i := 0) rfl, rfl⟩ rfl); clear nb m)
    | ((with_reducible refine Step.gate_load (t := 25) rfl ?_); refine Step.loadAll ST.out.kn.at3 rfl rfl rfl Tryz.underlying25 rfl (size_hart _) ?_)
    | (go_at_call 23; (with_reducible refine (TS.out _ _ _ _ _ _ ST.out.core1).mono ?_); rintro e w10 ⟨rfl, F3, hk, m, hF⟩; replace ST := Lib.hid (ST.out.step1 hk m hF); clear hk m hF)
    | ((with_reducible refine Step.gate_alloc (t := 25) rfl ?_); refine Step.freshAlloc rfl rfl (alloc_agg zero_hart) ?_; intro g15 w2 b hg hb; replace ST := Lib.hid (ST.out.made b hg hb); clear b hb hg)
    | ((with_reducible refine Step.gate_alloc (t := 46) rfl ?_); refine Step.freshAlloc rfl rfl (alloc_agg zero_ev) ?_; intro g16 w2 b hg hb; replace ST := Lib.hid (ST.out.made b hg hb); clear b hb hg)
    | ((with_reducible refine Step.gate_store (t := 25) rfl ?_); refine Step.storeAll ST.out.kn.at1 rfl rfl rfl rfl rfl (size_hart _) rfl (hc_all _) ?_; intro w3 nb m; replace ST := Lib.hid (ST.out.set (ST.out.kn.set1 nb m) m ⟨_, List.mem_of_getElem? (i := 1) rfl, rfl⟩ rfl); clear nb m)
    | ((with_reducible refine Step.gate_store (t := 46) rfl ?_); refine Step.storeAll (vs := #[.int .i64 0, .int .i64 0, .int .u64 0, .int .u64 0, .bool false, .bool false]) ST.out.kn.at0 rfl rfl rfl rfl rfl size_ev rfl rfl ?_; intro w3 nb m; replace ST := Lib.hid (ST.out.set (ST.out.kn.set0 nb m) m ⟨_, List.mem_of_getElem? (i := 0) rfl, rfl⟩ rfl); clear nb m)
    | ((with_reducible refine Step.gate_load (t := 46) rfl ?_); refine Step.loadAll ST.out.kn.at0 rfl rfl rfl Tryz.underlying46 rfl size_ev ?_)
    | ((with_reducible refine Step.gate_load (t := 22) rfl ?_); refine Step.loadG ST.out.kn.at1 rfl rfl rfl pl_u64 r7 ?_)
    | ((with_reducible refine Step.gate_load (t := 4) rfl ?_); refine Step.loadG ST.out.kn.at1 rfl rfl rfl pl_bool r39 ?_)
    | ((with_reducible refine Step.gate_load (t := 22) rfl ?_); refine Step.loadG ST.out.kn.at4 rfl rfl rfl pl_u64 (hv_ok _ (by decide)) ?_; simp only [hv_x0, hv_pc, hv_user, hv_on, hv_spie, hv_spp, hv_sum, hv_mxr, hv_rsv, hv_stvec, hv_sscr, hv_sepc, hv_scause, hv_stval, hv_sie, hv_sip, hv_satp, hv_resv])
    | ((with_reducible refine Step.gate_load (t := 40) rfl ?_); refine loadAllW ST.out.kn.at2 rfl rfl rfl Tryz.underlying40 rfl size_two ?_)
    | (go_at_call 26; (with_reducible refine (same_dk ST.out).mono ?_); rintro e w' ⟨rfl, hb⟩; replace ST := Lib.hid (ST.out.call hb); clear hb)
    | (go_at_call 15; (with_reducible refine (awake_any _).mono ?_); rintro e w' ⟨rfl, hb⟩; replace ST := Lib.hid (ST.out.call hb); clear hb))
  all_goals go_ret
  all_goals exact ⟨rfl, ST.out.below⟩
set_option maxHeartbeats 8000000 in
theorem res_law_nb (h : Hrt) (hf : Fit h) (at_ wh v p q : Int) (hp : 0 ≤ p ∧ p < 100) (hq : 0 ≤ q ∧ q < 100) (hv : 0 ≤ v ∧ v < 18446744073709551616) (hpq : ¬ q = p) (TP1 : Hid (∀ w, Calls Tryz.prog 25 #[.int .i64 at_, .int .i64 100] w fun e w' => e = .returned (.int .i64 p) ∧ w = w')) (TP2 : Hid (∀ w, Calls Tryz.prog 25 #[.int .i64 wh, .int .i64 100] w fun e w' => e = .returned (.int .i64 q) ∧ w = w')) (W : World) : Calls Tryz.prog 11 #[.agg (hc h), .int .i64 at_, .bool true, .int .i64 wh, .int .u64 v] W fun e w' => e = .returned (.bool true) ∧ Below W.heap.size W w' := by
  have TC0 := Lib.hid (calm_any h hf)
  obtain ⟨a, ea⟩ : ∃ a, a = 2147483712 + 8 * p := ⟨_, rfl⟩
  have ha : 0 ≤ a ∧ a < 18446744073709551616 := by omega
  have hh : hasB 2147483648 1 a 8 = true := by simp only [hasB, decide_eq_true_eq]; omega
  have hal : a % 8 = 0 := by omega
  have q1 : IntKind.i64.wrap (8 * p) = 8 * p := IntWalk.i64_in _ (by omega)
  have q2 : IntKind.i64.wrap (2147483712 + 8 * p) = a := by rw [ea]; exact IntWalk.i64_in _ (by omega)
  have q3 : IntKind.u64.wrap a = a := IntWalk.u64_in _ (by omega)
  obtain ⟨b, eb⟩ : ∃ b, b = 2147483712 + 8 * q := ⟨_, rfl⟩
  have hb : 0 ≤ b ∧ b < 18446744073709551616 := by omega
  have s1 : IntKind.i64.wrap (8 * q) = 8 * q := IntWalk.i64_in _ (by omega)
  have s2 : IntKind.i64.wrap (2147483712 + 8 * q) = b := by rw [eb]; exact IntWalk.i64_in _ (by omega)
  have s3 : IntKind.u64.wrap b = b := IntWalk.u64_in _ (by omega)
  have hne : ¬ b = a := by omega
  have hnb : (b == a) = false := beq_eq_false_iff_ne.2 hne
  have F0 := calm_fit hf
  have F : Fit { calmH h with x := xup (xup (calmH h).x 5 a) 6 v, rsv := true, resv := b } := ⟨fun i hi => by
    show U64 (xup (xup (calmH h).x 5 a) 6 v i)
    unfold xup
    split
    · exact ⟨hv.1, hv.2⟩
    · split
      · exact ⟨ha.1, ha.2⟩
      · exact F0.x i hi, F0.pc, F0.stvec, F0.sscr, F0.sepc, F0.scause, F0.stval, F0.sie, F0.sip, F0.satp, ⟨hb.1, hb.2⟩⟩
  have TS := Lib.hid (fun (X : World) (gc gm : Nat) (tv : Value) (m0 : Nat → Int) (F1 : Nat → Prop) (hk : Kor X gc gm tv 0 2147483648 1 (wr m0 0 4 409121711) F1) => step_scnb hk _ F rfl rfl rfl a v (show xup (xup (calmH h).x 5 a) 6 v 5 = a from rfl) (show xup (xup (calmH h).x 5 a) 6 v 6 = v from rfl) ⟨ha.1, ha.2⟩ hal hh rfl hne)
  clear F F0
  generalize calmH h = C at *
  obtain ⟨H2, eH⟩ : ∃ H, H = scN { C with x := xup (xup C.x 5 a) 6 v, rsv := true, resv := b }  := ⟨_, rfl⟩
  have r7 : (hc H2)[7]? = some (.int .u64 1) := by rw [eH]; rfl
  have r39 : (hc H2)[39]? = some (.bool false) := by rw [eH]; rfl
  rw [← eH] at TS
  clear eH ea hp hal hf eb hb hq hne hpq
  go_enter Tryz.func11, Tryz.ntmps11
  have ST := Lib.hid (Kn.nil (S := Step.Nil) (W := W))
  go_wp2_with (first
    | ((with_reducible refine Step.gate_box (t := 25) rfl ?_); refine Step.fresh (cs := hc h) (T := 25) rfl ?hr ?_; (case hr => first | (go_simp; done) | (go_simp; rfl)); intro g5 w1 b hg hb; replace ST := Lib.hid (ST.out.made b hg hb); clear b hb; clear hg)
    | ((with_reducible refine Step.gate_load (t := 25) rfl ?_); refine Step.loadAll ST.out.at0 rfl rfl rfl Tryz.underlying25 rfl (size_hart _) ?_)
    | (go_at_call 24; (with_reducible refine (TC0.out _).mono ?_); rintro e w' ⟨rfl, hb⟩; replace ST := Lib.hid (ST.out.call hb); clear hb)
    | ((with_reducible refine Step.gate_store (t := 25) rfl ?_); refine Step.storeAll ST.out.at0 rfl rfl rfl rfl rfl (size_hart _) rfl (hc_all _) ?_; intro w3 nb m; replace ST := Lib.hid (ST.out.set0 nb m); clear nb m)
    | (go_at_call 25; (with_reducible refine (TP1.out _).mono ?_); rintro e w' ⟨rfl, rfl⟩)
    | (go_at_call 25; (with_reducible refine (TP2.out _).mono ?_); rintro e w' ⟨rfl, rfl⟩)
    | ((with_reducible refine Step.gate_store (t := 22) rfl ?_); refine Step.store ST.out.at0 rfl rfl rfl rfl rfl pl_u64 rfl rfl ?_; intro w3 nb m; simp [go_sem, set_x5, set_x6, set_resv] at nb; replace ST := Lib.hid (ST.out.set0 nb m); clear nb m)
    | ((with_reducible refine Step.gate_store (t := 4) rfl ?_); refine Step.store ST.out.at0 rfl rfl rfl rfl rfl pl_bool rfl rfl ?_; intro w3 nb m; simp [go_sem, set_rsv] at nb; replace ST := Lib.hid (ST.out.set0 nb m); clear nb m)
    | ((with_reducible refine Step.gate_build (t := 64) rfl ?_); refine Step.freshSlice (cs := #[.int .i64 9, .int .u64 1]) (T := 63) (n := 1) (m := 1) rfl ?hr ?_; (case hr => first | (go_simp; done) | (go_simp; rfl)); intro gs w1 b hg hb; replace ST := Lib.hid (ST.out.made b hg hb); clear b hg hb)
    | (go_at_call 22; (with_reducible refine (one_sc ST.out.at0).mono ?_); rintro e w9 ⟨gc, gt, h1, h2, F1, F2, rfl, d⟩; replace ST := Lib.hid (DK.join ST.out d); clear d)
    | ((with_reducible refine Step.gate_alloc (t := 40) rfl ?_); refine Step.freshAlloc rfl rfl (Duo.alloc_agg Duo.zero_two) ?_; intro g13 w2 b hg hb; replace ST := Lib.hid (ST.out.made b hg hb); clear b hb hg)
    | ((with_reducible refine Step.gate_store (t := 40) rfl ?_); refine Step.storeAll (vs := #[.pointer (some ⟨h1, 0, none⟩), .pointer (some ⟨h2, 0, none⟩)]) ST.out.kn.at0 rfl rfl rfl rfl rfl size_two rfl rfl ?_; intro w3 nb m; replace ST := Lib.hid (ST.out.set (ST.out.kn.set0 nb m) m ⟨_, List.mem_of_getElem? (i := 0) rfl, rfl⟩ rfl); clear nb m)
    | ((with_reducible refine Step.gate_load (t := 25) rfl ?_); refine Step.loadAll ST.out.kn.at3 rfl rfl rfl Tryz.underlying25 rfl (size_hart _) ?_)
    | (go_at_call 23; (with_reducible refine (TS.out _ _ _ _ _ _ ST.out.core1).mono ?_); rintro e w10 ⟨rfl, F3, hk, m, hF⟩; replace ST := Lib.hid (ST.out.step1 hk m hF); clear hk m hF)
    | ((with_reducible refine Step.gate_alloc (t := 25) rfl ?_); refine Step.freshAlloc rfl rfl (alloc_agg zero_hart) ?_; intro g15 w2 b hg hb; replace ST := Lib.hid (ST.out.made b hg hb); clear b hb hg)
    | ((with_reducible refine Step.gate_alloc (t := 46) rfl ?_); refine Step.freshAlloc rfl rfl (alloc_agg zero_ev) ?_; intro g16 w2 b hg hb; replace ST := Lib.hid (ST.out.made b hg hb); clear b hb hg)
    | ((with_reducible refine Step.gate_store (t := 25) rfl ?_); refine Step.storeAll ST.out.kn.at1 rfl rfl rfl rfl rfl (size_hart _) rfl (hc_all _) ?_; intro w3 nb m; replace ST := Lib.hid (ST.out.set (ST.out.kn.set1 nb m) m ⟨_, List.mem_of_getElem? (i := 1) rfl, rfl⟩ rfl); clear nb m)
    | ((with_reducible refine Step.gate_store (t := 46) rfl ?_); refine Step.storeAll (vs := #[.int .i64 0, .int .i64 0, .int .u64 0, .int .u64 0, .bool false, .bool false]) ST.out.kn.at0 rfl rfl rfl rfl rfl size_ev rfl rfl ?_; intro w3 nb m; replace ST := Lib.hid (ST.out.set (ST.out.kn.set0 nb m) m ⟨_, List.mem_of_getElem? (i := 0) rfl, rfl⟩ rfl); clear nb m)
    | ((with_reducible refine Step.gate_load (t := 46) rfl ?_); refine Step.loadAll ST.out.kn.at0 rfl rfl rfl Tryz.underlying46 rfl size_ev ?_)
    | ((with_reducible refine Step.gate_load (t := 22) rfl ?_); refine Step.loadG ST.out.kn.at1 rfl rfl rfl pl_u64 r7 ?_)
    | ((with_reducible refine Step.gate_load (t := 4) rfl ?_); refine Step.loadG ST.out.kn.at1 rfl rfl rfl pl_bool r39 ?_)
    | ((with_reducible refine Step.gate_load (t := 22) rfl ?_); refine Step.loadG ST.out.kn.at4 rfl rfl rfl pl_u64 (hv_ok _ (by decide)) ?_; simp only [hv_x0, hv_pc, hv_user, hv_on, hv_spie, hv_spp, hv_sum, hv_mxr, hv_rsv, hv_stvec, hv_sscr, hv_sepc, hv_scause, hv_stval, hv_sie, hv_sip, hv_satp, hv_resv])
    | ((with_reducible refine Step.gate_load (t := 40) rfl ?_); refine loadAllW ST.out.kn.at2 rfl rfl rfl Tryz.underlying40 rfl size_two ?_)
    | (go_at_call 26; (with_reducible refine (same_dk ST.out).mono ?_); rintro e w' ⟨rfl, hb⟩; replace ST := Lib.hid (ST.out.call hb); clear hb)
    | (go_at_call 15; (with_reducible refine (awake_any _).mono ?_); rintro e w' ⟨rfl, hb⟩; replace ST := Lib.hid (ST.out.call hb); clear hb))
  all_goals go_ret
  all_goals exact ⟨rfl, ST.out.below⟩
theorem reserves_any (h : Hrt) (hf : Fit h) (at_ : Int) (rs : Bool) (wh v : Int) (h1 : -9223372036854775808 ≤ at_ ∧ at_ < 9223372036854775808) (h2 : -9223372036854775808 ≤ wh ∧ wh < 9223372036854775808) (hv : U64 v) (W : World) : Calls Tryz.prog 11 #[.agg (hc h), .int .i64 at_, .bool rs, .int .i64 wh, .int .u64 v] W fun e w' => e = .returned (.bool true) ∧ Below W.heap.size W w' := by
  have P : ∀ x, -9223372036854775808 ≤ x ∧ x < 9223372036854775808 → ∀ w, Calls Tryz.prog 25 #[.int .i64 x, .int .i64 100] w fun e w' => e = .returned (.int .i64 (x % 100)) ∧ w = w' := fun x hx w => Mem.place_any x 100 (by decide) hx (by decide) w
  have b1 : 0 ≤ at_ % 100 ∧ at_ % 100 < 100 := by omega
  have b2 : 0 ≤ wh % 100 ∧ wh % 100 < 100 := by omega
  cases rs
  · exact res_law_na h hf at_ wh v _ _ b1 b2 hv.out (Lib.hid (P at_ h1)) (Lib.hid (P wh h2)) W
  · by_cases e : wh % 100 = at_ % 100
    · exact res_law_y h hf at_ wh v _ 0 b1 hv.out (Lib.hid (P at_ h1)) (Lib.hid (e ▸ P wh h2)) W
    · exact res_law_nb h hf at_ wh v _ _ b1 b2 hv.out e (Lib.hid (P at_ h1)) (Lib.hid (P wh h2)) W
end Go.Proofs.YthkodjkkcgdmfaaGreat.Hart
end
section
namespace Go.Proofs.YthkodjkkcgdmfaaGreat.Hart
open Go Go.RowKit Go.Proofs.YthkodjkkcgdmfaaGreat.Step
set_option linter.unusedVariables false
theorem reserves_row (h : Hrt) (at_ : Int) (rs : Bool) (wh v : Int) (W : World) (hf : Fit h) (h1 : (Lit.int .i64 at_).wf = true) (h2 : (Lit.int .i64 wh).wf = true) (hv : (Lit.int .u64 v).wf = true) : Calls Tryz.prog 11 #[.agg (Hart.hc h), .int .i64 at_, .bool rs, .int .i64 wh, .int .u64 v] W fun e w' => e = .returned (.bool true) ∧ Below W.heap.size W w' :=
  reserves_any h hf at_ rs wh v (by have := bounds_i64 h1; omega) (by have := bounds_i64 h2; omega) (bd_u64 hv) W
end Go.Proofs.YthkodjkkcgdmfaaGreat.Hart
end
