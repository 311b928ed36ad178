/- Parts of the walks and laws for the claim: OpenH, OpenC; no conditions beyond the theorems' own. -/
import Derived.Carry
import Derived.ChangeArms
import Derived.ChangeOld
import Derived.Deep.SlicePairs
import Derived.OpenShut
import Derived.ProofKit
import Derived.ShutString
import Derived.SizedLaws
import Derived.Test.YtidiojhefjhojaaGreatRows
import Derived.WalkKit
import Derived.Test.YtidiojhefjhojaaGreatQ2
import Derived.Test.YtidiojhefjhojaaGreatQ19
import Derived.Test.YtidiojhefjhojaaGreatQ20
section
namespace Go.Proofs.YtidiojhefjhojaaGreat.Hart
open Go Go.RowKit Go.ChangeShapes Go.WideShapes Go.ChangeAt
set_option linter.unusedVariables false
set_option linter.unusedSimpArgs false
set_option maxRecDepth 100000
section
variable {H : Type} {enc : TypeId × Value → H} {W : World} {base : Nat} {sp : Nat → Bool} {held : Bool}
theorem co_u64 : Tryz.prog.cellsOf 22 = 1 := by kernel_rfl
theorem co_bool : Tryz.prog.cellsOf 4 = 1 := by kernel_rfl
theorem co_arr : Tryz.prog.cellsOf 25 = 32 := by kernel_rfl
theorem co_hart : Tryz.prog.cellsOf 27 = 49 := by kernel_rfl
theorem bd_u64 {v : Int} (h : (Lit.int .u64 v).wf = true) : U64 v := by have := bounds_u64 h; exact ⟨by omega, by omega⟩
end
end Go.Proofs.YtidiojhefjhojaaGreat.Hart
end
section
namespace Go.Proofs.YtidiojhefjhojaaGreat.Hart
open Go Go.RowKit Go.ChangeShapes Go.WideShapes Go.ChangeAt Go.Proofs.YtidiojhefjhojaaGreat.Step Go.Proofs.YtidiojhefjhojaaGreat.Enc Go.Proofs.YtidiojhefjhojaaGreat.Kn
open Go.Proofs.YtidiojhefjhojaaGreat.Mem (Ram Grow hasB wholeB num wr Rd fl Arg lst newB place_any)
open Go.Proofs.YtidiojhefjhojaaGreat.Duo (Duo RdC cm memory_any size_two)
set_option linter.unusedVariables false
set_option linter.unusedSimpArgs false
set_option maxRecDepth 100000
section
variable {H : Type} {enc : TypeId × Value → H} {W : World} {base : Nat} {sp : Nat → Bool} {held : Bool}
theorem co_case15 : Tryz.prog.cellsOf 29 = 54 := by kernel_rfl
theorem co_cell : Tryz.prog.cellsOf 112 = 2 := by kernel_rfl
theorem co_cells : Tryz.prog.cellsOf 24 = 1 := by kernel_rfl
theorem co_bytes : Tryz.prog.cellsOf 23 = 1 := by kernel_rfl
theorem co_u8 : Tryz.prog.cellsOf 5 = 1 := by kernel_rfl
def iOf : Value → Int | .int _ q => q | _ => 0
theorem open_cells {fuel : Nat} {cs : List Value} {x : DataW H × List MemPlace} (h : DataW.trod enc Tryz.prog W base sp held fuel 24 cs = some x) :
    ∃ A len cap f, cs = [.slice A len cap] ∧ RdC W A len f (· < W.heap.size) ∧ len ≤ 9223372036854775807 := by
  rcases Go.Deep.open_slice_pairs Tryz.underlying24 Tryz.underlying112 co_cell rfl rfl co_int co_u64 h with ⟨rfl, _⟩ | ⟨a, len, cap, m, n, V0, V1, D0, D1, P0, P1, rfl, hb, hl, hm, hmm, _, hx⟩
  · exact ⟨none, 0, 0, fun _ => (0, 0), rfl, fun i hi => by omega, by omega⟩
  · have hlm : len ≤ m := by rw [hmm]; split <;> omega
    refine ⟨some a, len, cap, fun i => (iOf (V0 i), iOf (V1 i)), rfl, fun i hi => ?_, by unfold maxLen at hm; omega⟩
    obtain ⟨h0, h1, t0, t1⟩ := hx i (by omega)
    obtain ⟨n0, e0, _, w0⟩ := DataW.trod_int Tryz.underlying3 t0
    obtain ⟨n1, e1, _, w1⟩ := DataW.trod_int Tryz.underlying22 t1
    simp only [List.cons.injEq, and_true] at e0 e1
    rw [e0] at h0
    rw [e1] at h1
    have i0 : iOf (V0 i) = n0 := by rw [e0]; rfl
    have i1 : iOf (V1 i) = n1 := by rw [e1]; rfl
    refine ⟨a, rfl, ?_, ?_, ?_, ?_, ?_⟩
    all_goals dsimp only
    · have := World.block_lt_of_cell? W _ h0
      rwa [Duo.block_add] at this
    · rw [i0]; exact h0
    · rw [i1]; exact h1
    · rw [i0]; exact bd_i64 w0
    · rw [i1]; exact (bd_u64 w1).out
theorem open_bytes {fuel : Nat} {cs : List Value} {x : DataW H × List MemPlace} (h : DataW.trod enc Tryz.prog W base sp held fuel 23 cs = some x) :
    ∃ A len cap f, cs = [.slice A len cap] ∧ Arg W A len cap f (· < W.heap.size) ∧ len ≤ cap := by
  obtain ⟨A, len, cap, rfl⟩ : ∃ A len cap, cs = [.slice A len cap] := by
    rcases open_ints Tryz.underlying23 Tryz.underlying5 co_u8 h with ⟨rfl, _⟩ | ⟨y, l, c', zs, rfl, _⟩
    · exact ⟨_, _, _, rfl⟩
    · exact ⟨_, _, _, rfl⟩
  have ht : DataW.Trod enc Tryz.prog W base sp held 23 (.slice A len cap) x.1 x.2 := ⟨fuel, by simpa [Value.cells] using h⟩
  obtain ⟨f, hr, _⟩ := open_rd Tryz.underlying23 Tryz.underlying5 co_u8 ht
  have hc := open_cap Tryz.underlying23 Tryz.underlying5 co_u8 ht
  refine ⟨A, len, cap, f, rfl, ⟨fun k hk => ?_, hc.1⟩, hc.2⟩
  obtain ⟨ad, e, g, hcell, hw⟩ := hr k hk
  have := bounds_u8 hw
  exact ⟨ad, e, g, hcell, by omega, by omega⟩
set_option maxHeartbeats 8000000 in
theorem open_hartL {fuel : Nat} {l : List Value} {x : DataW H × List MemPlace} (hsz : l.length = 49) (hf : DataW.trod enc Tryz.prog W base sp held fuel 27 l = some x) : ∃ h : Hrt, l = (hc h).toList ∧ Fit h := by
  match l, hsz with
  | a0 :: a1 :: a2 :: a3 :: a4 :: a5 :: a6 :: a7 :: a8 :: a9 :: a10 :: a11 :: a12 :: a13 :: a14 :: a15 :: a16 :: a17 :: a18 :: a19 :: a20 :: a21 :: a22 :: a23 :: a24 :: a25 :: a26 :: a27 :: a28 :: a29 :: a30 :: a31 :: a32 :: a33 :: a34 :: a35 :: a36 :: a37 :: a38 :: a39 :: a40 :: a41 :: a42 :: a43 :: a44 :: a45 :: a46 :: a47 :: a48 :: [], _ =>
    obtain ⟨xs, n, _, _, _, hxl, hfl⟩ := DataW.trod_struct Tryz.underlying27 hf
    match xs, hxl with
    | [y0, y1, y2, y3, y4, y5, y6, y7, y8, y9, y10, y11, y12, y13, y14, y15, y16, y17], _ =>
      have gA : DataW.trod enc Tryz.prog W base sp held n 25 [a0, a1, a2, a3, a4, a5, a6, a7, a8, a9, a10, a11, a12, a13, a14, a15, a16, a17, a18, a19, a20, a21, a22, a23, a24, a25, a26, a27, a28, a29, a30, a31] = some y0 := by simpa [co_arr, co_u64, co_bool, Value.cells] using hfl 0 _ rfl
      obtain ⟨xs2, m, _, _, _, hx2, hal⟩ := DataW.trod_array Tryz.underlying25 gA
      match xs2, hx2 with
      | z0 :: z1 :: z2 :: z3 :: z4 :: z5 :: z6 :: z7 :: z8 :: z9 :: z10 :: z11 :: z12 :: z13 :: z14 :: z15 :: z16 :: z17 :: z18 :: z19 :: z20 :: z21 :: z22 :: z23 :: z24 :: z25 :: z26 :: z27 :: z28 :: z29 :: z30 :: z31 :: [], _ =>
        have g0 : DataW.trod enc Tryz.prog W base sp held m 22 [a0] = some z0 := by simpa [co_u64] using hal 0 (by decide)
        have g1 : DataW.trod enc Tryz.prog W base sp held m 22 [a1] = some z1 := by simpa [co_u64] using hal 1 (by decide)
        have g2 : DataW.trod enc Tryz.prog W base sp held m 22 [a2] = some z2 := by simpa [co_u64] using hal 2 (by decide)
        have g3 : DataW.trod enc Tryz.prog W base sp held m 22 [a3] = some z3 := by simpa [co_u64] using hal 3 (by decide)
        have g4 : DataW.trod enc Tryz.prog W base sp held m 22 [a4] = some z4 := by simpa [co_u64] using hal 4 (by decide)
        have g5 : DataW.trod enc Tryz.prog W base sp held m 22 [a5] = some z5 := by simpa [co_u64] using hal 5 (by decide)
        have g6 : DataW.trod enc Tryz.prog W base sp held m 22 [a6] = some z6 := by simpa [co_u64] using hal 6 (by decide)
        have g7 : DataW.trod enc Tryz.prog W base sp held m 22 [a7] = some z7 := by simpa [co_u64] using hal 7 (by decide)
        have g8 : DataW.trod enc Tryz.prog W base sp held m 22 [a8] = some z8 := by simpa [co_u64] using hal 8 (by decide)
        have g9 : DataW.trod enc Tryz.prog W base sp held m 22 [a9] = some z9 := by simpa [co_u64] using hal 9 (by decide)
        have g10 : DataW.trod enc Tryz.prog W base sp held m 22 [a10] = some z10 := by simpa [co_u64] using hal 10 (by decide)
        have g11 : DataW.trod enc Tryz.prog W base sp held m 22 [a11] = some z11 := by simpa [co_u64] using hal 11 (by decide)
        have g12 : DataW.trod enc Tryz.prog W base sp held m 22 [a12] = some z12 := by simpa [co_u64] using hal 12 (by decide)
        have g13 : DataW.trod enc Tryz.prog W base sp held m 22 [a13] = some z13 := by simpa [co_u64] using hal 13 (by decide)
        have g14 : DataW.trod enc Tryz.prog W base sp held m 22 [a14] = some z14 := by simpa [co_u64] using hal 14 (by decide)
        have g15 : DataW.trod enc Tryz.prog W base sp held m 22 [a15] = some z15 := by simpa [co_u64] using hal 15 (by decide)
        have g16 : DataW.trod enc Tryz.prog W base sp held m 22 [a16] = some z16 := by simpa [co_u64] using hal 16 (by decide)
        have g17 : DataW.trod enc Tryz.prog W base sp held m 22 [a17] = some z17 := by simpa [co_u64] using hal 17 (by decide)
        have g18 : DataW.trod enc Tryz.prog W base sp held m 22 [a18] = some z18 := by simpa [co_u64] using hal 18 (by decide)
        have g19 : DataW.trod enc Tryz.prog W base sp held m 22 [a19] = some z19 := by simpa [co_u64] using hal 19 (by decide)
        have g20 : DataW.trod enc Tryz.prog W base sp held m 22 [a20] = some z20 := by simpa [co_u64] using hal 20 (by decide)
        have g21 : DataW.trod enc Tryz.prog W base sp held m 22 [a21] = some z21 := by simpa [co_u64] using hal 21 (by decide)
        have g22 : DataW.trod enc Tryz.prog W base sp held m 22 [a22] = some z22 := by simpa [co_u64] using hal 22 (by decide)
        have g23 : DataW.trod enc Tryz.prog W base sp held m 22 [a23] = some z23 := by simpa [co_u64] using hal 23 (by decide)
        have g24 : DataW.trod enc Tryz.prog W base sp held m 22 [a24] = some z24 := by simpa [co_u64] using hal 24 (by decide)
        have g25 : DataW.trod enc Tryz.prog W base sp held m 22 [a25] = some z25 := by simpa [co_u64] using hal 25 (by decide)
        have g26 : DataW.trod enc Tryz.prog W base sp held m 22 [a26] = some z26 := by simpa [co_u64] using hal 26 (by decide)
        have g27 : DataW.trod enc Tryz.prog W base sp held m 22 [a27] = some z27 := by simpa [co_u64] using hal 27 (by decide)
        have g28 : DataW.trod enc Tryz.prog W base sp held m 22 [a28] = some z28 := by simpa [co_u64] using hal 28 (by decide)
        have g29 : DataW.trod enc Tryz.prog W base sp held m 22 [a29] = some z29 := by simpa [co_u64] using hal 29 (by decide)
        have g30 : DataW.trod enc Tryz.prog W base sp held m 22 [a30] = some z30 := by simpa [co_u64] using hal 30 (by decide)
        have g31 : DataW.trod enc Tryz.prog W base sp held m 22 [a31] = some z31 := by simpa [co_u64] using hal 31 (by decide)
        have g32 : DataW.trod enc Tryz.prog W base sp held n 22 [a32] = some y1 := by simpa [co_u64, co_bool, Value.cells] using hfl 1 _ rfl
        have g33 : DataW.trod enc Tryz.prog W base sp held n 4 [a33] = some y2 := by simpa [co_u64, co_bool, Value.cells] using hfl 2 _ rfl
        have g34 : DataW.trod enc Tryz.prog W base sp held n 4 [a34] = some y3 := by simpa [co_u64, co_bool, Value.cells] using hfl 3 _ rfl
        have g35 : DataW.trod enc Tryz.prog W base sp held n 4 [a35] = some y4 := by simpa [co_u64, co_bool, Value.cells] using hfl 4 _ rfl
        have g36 : DataW.trod enc Tryz.prog W base sp held n 4 [a36] = some y5 := by simpa [co_u64, co_bool, Value.cells] using hfl 5 _ rfl
        have g37 : DataW.trod enc Tryz.prog W base sp held n 4 [a37] = some y6 := by simpa [co_u64, co_bool, Value.cells] using hfl 6 _ rfl
        have g38 : DataW.trod enc Tryz.prog W base sp held n 4 [a38] = some y7 := by simpa [co_u64, co_bool, Value.cells] using hfl 7 _ rfl
        have g39 : DataW.trod enc Tryz.prog W base sp held n 4 [a39] = some y8 := by simpa [co_u64, co_bool, Value.cells] using hfl 8 _ rfl
        have g40 : DataW.trod enc Tryz.prog W base sp held n 22 [a40] = some y9 := by simpa [co_u64, co_bool, Value.cells] using hfl 9 _ rfl
        have g41 : DataW.trod enc Tryz.prog W base sp held n 22 [a41] = some y10 := by simpa [co_u64, co_bool, Value.cells] using hfl 10 _ rfl
        have g42 : DataW.trod enc Tryz.prog W base sp held n 22 [a42] = some y11 := by simpa [co_u64, co_bool, Value.cells] using hfl 11 _ rfl
        have g43 : DataW.trod enc Tryz.prog W base sp held n 22 [a43] = some y12 := by simpa [co_u64, co_bool, Value.cells] using hfl 12 _ rfl
        have g44 : DataW.trod enc Tryz.prog W base sp held n 22 [a44] = some y13 := by simpa [co_u64, co_bool, Value.cells] using hfl 13 _ rfl
        have g45 : DataW.trod enc Tryz.prog W base sp held n 22 [a45] = some y14 := by simpa [co_u64, co_bool, Value.cells] using hfl 14 _ rfl
        have g46 : DataW.trod enc Tryz.prog W base sp held n 22 [a46] = some y15 := by simpa [co_u64, co_bool, Value.cells] using hfl 15 _ rfl
        have g47 : DataW.trod enc Tryz.prog W base sp held n 22 [a47] = some y16 := by simpa [co_u64, co_bool, Value.cells] using hfl 16 _ rfl
        have g48 : DataW.trod enc Tryz.prog W base sp held n 22 [a48] = some y17 := by simpa [co_u64, co_bool, Value.cells] using hfl 17 _ rfl
        obtain ⟨n0, e0, _, w0⟩ := DataW.trod_int Tryz.underlying22 g0
        obtain ⟨n1, e1, _, w1⟩ := DataW.trod_int Tryz.underlying22 g1
        obtain ⟨n2, e2, _, w2⟩ := DataW.trod_int Tryz.underlying22 g2
        obtain ⟨n3, e3, _, w3⟩ := DataW.trod_int Tryz.underlying22 g3
        obtain ⟨n4, e4, _, w4⟩ := DataW.trod_int Tryz.underlying22 g4
        obtain ⟨n5, e5, _, w5⟩ := DataW.trod_int Tryz.underlying22 g5
        obtain ⟨n6, e6, _, w6⟩ := DataW.trod_int Tryz.underlying22 g6
        obtain ⟨n7, e7, _, w7⟩ := DataW.trod_int Tryz.underlying22 g7
        obtain ⟨n8, e8, _, w8⟩ := DataW.trod_int Tryz.underlying22 g8
        obtain ⟨n9, e9, _, w9⟩ := DataW.trod_int Tryz.underlying22 g9
        obtain ⟨n10, e10, _, w10⟩ := DataW.trod_int Tryz.underlying22 g10
        obtain ⟨n11, e11, _, w11⟩ := DataW.trod_int Tryz.underlying22 g11
        obtain ⟨n12, e12, _, w12⟩ := DataW.trod_int Tryz.underlying22 g12
        obtain ⟨n13, e13, _, w13⟩ := DataW.trod_int Tryz.underlying22 g13
        obtain ⟨n14, e14, _, w14⟩ := DataW.trod_int Tryz.underlying22 g14
        obtain ⟨n15, e15, _, w15⟩ := DataW.trod_int Tryz.underlying22 g15
        obtain ⟨n16, e16, _, w16⟩ := DataW.trod_int Tryz.underlying22 g16
        obtain ⟨n17, e17, _, w17⟩ := DataW.trod_int Tryz.underlying22 g17
        obtain ⟨n18, e18, _, w18⟩ := DataW.trod_int Tryz.underlying22 g18
        obtain ⟨n19, e19, _, w19⟩ := DataW.trod_int Tryz.underlying22 g19
        obtain ⟨n20, e20, _, w20⟩ := DataW.trod_int Tryz.underlying22 g20
        obtain ⟨n21, e21, _, w21⟩ := DataW.trod_int Tryz.underlying22 g21
        obtain ⟨n22, e22, _, w22⟩ := DataW.trod_int Tryz.underlying22 g22
        obtain ⟨n23, e23, _, w23⟩ := DataW.trod_int Tryz.underlying22 g23
        obtain ⟨n24, e24, _, w24⟩ := DataW.trod_int Tryz.underlying22 g24
        obtain ⟨n25, e25, _, w25⟩ := DataW.trod_int Tryz.underlying22 g25
        obtain ⟨n26, e26, _, w26⟩ := DataW.trod_int Tryz.underlying22 g26
        obtain ⟨n27, e27, _, w27⟩ := DataW.trod_int Tryz.underlying22 g27
        obtain ⟨n28, e28, _, w28⟩ := DataW.trod_int Tryz.underlying22 g28
        obtain ⟨n29, e29, _, w29⟩ := DataW.trod_int Tryz.underlying22 g29
        obtain ⟨n30, e30, _, w30⟩ := DataW.trod_int Tryz.underlying22 g30
        obtain ⟨n31, e31, _, w31⟩ := DataW.trod_int Tryz.underlying22 g31
        obtain ⟨n32, e32, _, w32⟩ := DataW.trod_int Tryz.underlying22 g32
        obtain ⟨n33, e33, _⟩ := DataW.trod_bool Tryz.underlying4 g33
        obtain ⟨n34, e34, _⟩ := DataW.trod_bool Tryz.underlying4 g34
        obtain ⟨n35, e35, _⟩ := DataW.trod_bool Tryz.underlying4 g35
        obtain ⟨n36, e36, _⟩ := DataW.trod_bool Tryz.underlying4 g36
        obtain ⟨n37, e37, _⟩ := DataW.trod_bool Tryz.underlying4 g37
        obtain ⟨n38, e38, _⟩ := DataW.trod_bool Tryz.underlying4 g38
        obtain ⟨n39, e39, _⟩ := DataW.trod_bool Tryz.underlying4 g39
        obtain ⟨n40, e40, _, w40⟩ := DataW.trod_int Tryz.underlying22 g40
        obtain ⟨n41, e41, _, w41⟩ := DataW.trod_int Tryz.underlying22 g41
        obtain ⟨n42, e42, _, w42⟩ := DataW.trod_int Tryz.underlying22 g42
        obtain ⟨n43, e43, _, w43⟩ := DataW.trod_int Tryz.underlying22 g43
        obtain ⟨n44, e44, _, w44⟩ := DataW.trod_int Tryz.underlying22 g44
        obtain ⟨n45, e45, _, w45⟩ := DataW.trod_int Tryz.underlying22 g45
        obtain ⟨n46, e46, _, w46⟩ := DataW.trod_int Tryz.underlying22 g46
        obtain ⟨n47, e47, _, w47⟩ := DataW.trod_int Tryz.underlying22 g47
        obtain ⟨n48, e48, _, w48⟩ := DataW.trod_int Tryz.underlying22 g48
        simp only [List.cons.injEq, and_true] at e0 e1 e2 e3 e4 e5 e6 e7 e8 e9 e10 e11 e12 e13 e14 e15 e16 e17 e18 e19 e20 e21 e22 e23 e24 e25 e26 e27 e28 e29 e30 e31 e32 e33 e34 e35 e36 e37 e38 e39 e40 e41 e42 e43 e44 e45 e46 e47 e48
        subst e0 e1 e2 e3 e4 e5 e6 e7 e8 e9 e10 e11 e12 e13 e14 e15 e16 e17 e18 e19 e20 e21 e22 e23 e24 e25 e26 e27 e28 e29 e30 e31 e32 e33 e34 e35 e36 e37 e38 e39 e40 e41 e42 e43 e44 e45 e46 e47 e48
        refine ⟨{ x := fun k => match k with | 0 => n0 | 1 => n1 | 2 => n2 | 3 => n3 | 4 => n4 | 5 => n5 | 6 => n6 | 7 => n7 | 8 => n8 | 9 => n9 | 10 => n10 | 11 => n11 | 12 => n12 | 13 => n13 | 14 => n14 | 15 => n15 | 16 => n16 | 17 => n17 | 18 => n18 | 19 => n19 | 20 => n20 | 21 => n21 | 22 => n22 | 23 => n23 | 24 => n24 | 25 => n25 | 26 => n26 | 27 => n27 | 28 => n28 | 29 => n29 | 30 => n30 | 31 => n31 | _ => 0, pc := n32, user := n33, on := n34, spie := n35, spp := n36, sum := n37, mxr := n38, rsv := n39, stvec := n40, sscr := n41, sepc := n42, scause := n43, stval := n44, sie := n45, sip := n46, satp := n47, resv := n48 }, rfl, fun i hi => ?_, bd_u64 w32, bd_u64 w40, bd_u64 w41, bd_u64 w42, bd_u64 w43, bd_u64 w44, bd_u64 w45, bd_u64 w46, bd_u64 w47, bd_u64 w48⟩
        obtain h1 | h1 | h1 | h1 | h1 | h1 | h1 | h1 | h1 | h1 | h1 | h1 | h1 | h1 | h1 | h1 | h1 | h1 | h1 | h1 | h1 | h1 | h1 | h1 | h1 | h1 | h1 | h1 | h1 | h1 | h1 | h1 : i = 0 ∨ i = 1 ∨ i = 2 ∨ i = 3 ∨ i = 4 ∨ i = 5 ∨ i = 6 ∨ i = 7 ∨ i = 8 ∨ i = 9 ∨ i = 10 ∨ i = 11 ∨ i = 12 ∨ i = 13 ∨ i = 14 ∨ i = 15 ∨ i = 16 ∨ i = 17 ∨ i = 18 ∨ i = 19 ∨ i = 20 ∨ i = 21 ∨ i = 22 ∨ i = 23 ∨ i = 24 ∨ i = 25 ∨ i = 26 ∨ i = 27 ∨ i = 28 ∨ i = 29 ∨ i = 30 ∨ i = 31 := by omega
        · subst h1; exact bd_u64 w0
        · subst h1; exact bd_u64 w1
        · subst h1; exact bd_u64 w2
        · subst h1; exact bd_u64 w3
        · subst h1; exact bd_u64 w4
        · subst h1; exact bd_u64 w5
        · subst h1; exact bd_u64 w6
        · subst h1; exact bd_u64 w7
        · subst h1; exact bd_u64 w8
        · subst h1; exact bd_u64 w9
        · subst h1; exact bd_u64 w10
        · subst h1; exact bd_u64 w11
        · subst h1; exact bd_u64 w12
        · subst h1; exact bd_u64 w13
        · subst h1; exact bd_u64 w14
        · subst h1; exact bd_u64 w15
        · subst h1; exact bd_u64 w16
        · subst h1; exact bd_u64 w17
        · subst h1; exact bd_u64 w18
        · subst h1; exact bd_u64 w19
        · subst h1; exact bd_u64 w20
        · subst h1; exact bd_u64 w21
        · subst h1; exact bd_u64 w22
        · subst h1; exact bd_u64 w23
        · subst h1; exact bd_u64 w24
        · subst h1; exact bd_u64 w25
        · subst h1; exact bd_u64 w26
        · subst h1; exact bd_u64 w27
        · subst h1; exact bd_u64 w28
        · subst h1; exact bd_u64 w29
        · subst h1; exact bd_u64 w30
        · subst h1; exact bd_u64 w31
theorem open_mcase {r : Reach} {b0 : Nat} {v : Value} {d : DataW H} {ps : List MemPlace} (hval : Value.okWide Tryz.prog W r b0 29 v) (h : DataW.Trod enc Tryz.prog W base sp held 29 v d ps) :
    ∃ k : C15, v = .agg k.cells ∧ k.Ok W := by
  simp only [Value.okWide, Tryz.underlying29] at hval
  obtain ⟨cs, rfl, hsz, _⟩ := hval
  rw [co_case15] at hsz
  obtain ⟨l⟩ := cs
  obtain ⟨fuel, hf⟩ := h
  match l, hsz with
  | a0 :: a1 :: a2 :: a3 :: a4 :: rest, hz =>
    have hr : rest.length = 49 := by simpa using hz
    obtain ⟨xs, n, _, _, _, hxl, hfl⟩ := DataW.trod_struct Tryz.underlying29 hf
    match xs, hxl with
    | [y0, y1, y2, y3, y4, y5], _ =>
      have g0 : DataW.trod enc Tryz.prog W base sp held n 22 [a0] = some y0 := by simpa [co_u64, Value.cells] using hfl 0 _ rfl
      have g1 : DataW.trod enc Tryz.prog W base sp held n 3 [a1] = some y1 := by simpa [co_int, Value.cells] using hfl 1 _ rfl
      have g2 : DataW.trod enc Tryz.prog W base sp held n 23 [a2] = some y2 := by simpa [co_bytes, Value.cells] using hfl 2 _ rfl
      have g3 : DataW.trod enc Tryz.prog W base sp held n 24 [a3] = some y3 := by simpa [co_cells, Value.cells] using hfl 3 _ rfl
      have g4 : DataW.trod enc Tryz.prog W base sp held n 22 [a4] = some y4 := by simpa [co_u64, Value.cells] using hfl 4 _ rfl
      have g5 : DataW.trod enc Tryz.prog W base sp held n 27 rest = some y5 := by simpa [co_hart, Value.cells, ← hr] using hfl 5 _ rfl
      obtain ⟨n0, e0, _, w0⟩ := DataW.trod_int Tryz.underlying22 g0
      obtain ⟨n1, e1, _, w1⟩ := DataW.trod_int Tryz.underlying3 g1
      obtain ⟨A, s, c, f, e2, hA, hsc⟩ := open_bytes g2
      obtain ⟨A2, len, cap, f2, e3, hr2, hl⟩ := open_cells g3
      obtain ⟨n4, e4, _, w4⟩ := DataW.trod_int Tryz.underlying22 g4
      obtain ⟨h, rfl, hfit⟩ := open_hartL hr g5
      simp only [List.cons.injEq, and_true] at e0 e1 e2 e3 e4
      subst e0 e1 e2 e3 e4
      exact ⟨⟨n0, n1, A, s, c, f, A2, len, cap, f2, n4, h⟩, rfl, bd_u64 w0, bd_i64 w1, hA, hsc, hr2, hl, bd_u64 w4, hfit⟩
end
end Go.Proofs.YtidiojhefjhojaaGreat.Hart
end
