/- Parts of the walks and laws for the claim: LawH; no conditions beyond the theorems' own. -/
import Derived.Test.YthkodjkkcgdmfaaGreatT26
section
namespace Go.Proofs.YthkodjkkcgdmfaaGreat.Hart
open Go Go.RowKit Go.Proofs.YthkodjkkcgdmfaaGreat.Step Go.Proofs.YthkodjkkcgdmfaaGreat.Enc Go.Proofs.YthkodjkkcgdmfaaGreat.Kn
open Go.Proofs.YthkodjkkcgdmfaaGreat.Mem (Ram Grow hasB newB wholeB num wr Rd fl Arg lst)
open Go.Proofs.YthkodjkkcgdmfaaGreat.Duo (Duo RdC cm size_two)
set_option linter.unusedVariables false
set_option linter.unusedSimpArgs false
set_option maxRecDepth 100000
theorem st1_w : wordP ⟨7, 0, 0, 5, 6, 0, 1, false⟩ = 6455331 := by kernel_rfl
theorem st1_d : dec 6455331 = some ⟨7, 0, 0, 5, 6, 0, 1, false⟩ := by kernel_rfl
theorem one_st1 (W : World) : Calls Tryz.prog 22 #[.agg #[.int .i64 7, .int .i64 0, .int .i64 0, .int .i64 5, .int .i64 6, .int .i64 0, .int .i64 1, .bool false], .slice none 0 0] W fun e w' => ∃ gc gt h1 h2 F1 F2, e = .returned (.tuple #[.pointer (some ⟨gc, 0, none⟩), .agg #[.pointer (some ⟨h1, 0, none⟩), .pointer (some ⟨h2, 0, none⟩)], .bool true]) ∧ DK W w' h1 h2 2147483648 1 (wr (cm 1 (fun _ => (0, 0)) 0) 0 4 6455331) (wr (cm 1 (fun _ => (0, 0)) 0) 0 4 6455331) F1 F2 ((gc, ccg h1 (.pointer (some ⟨gt, 0, none⟩)) 0 0 0 0 (.map none), TC) :: []) := by
  have h := one_any W ⟨7, 0, 0, 5, 6, 0, 1, false⟩ (by unfold InR; decide) (by rw [st1_w]; exact ⟨by decide, by decide⟩) (by rw [st1_w]; exact st1_d) (Lib.hid (by rw [st1_w]; exact rDec_35 6455331 ⟨by decide, by decide⟩ (by kernel_rfl))) none 0 0 (fun _ => (0, 0)) (no_cells _ _) (by decide)
  rw [st1_w] at h
  refine h.mono fun e w' q => ?_
  obtain ⟨gc, gt, h1, h2, F1, F2, rfl, d⟩ := q
  exact ⟨gc, gt, h1, h2, F1, F2, rfl, d.solo⟩
theorem st2_w : wordP ⟨7, 0, 0, 5, 6, 0, 2, false⟩ = 6459427 := by kernel_rfl
theorem st2_d : dec 6459427 = some ⟨7, 0, 0, 5, 6, 0, 2, false⟩ := by kernel_rfl
theorem one_st2 (W : World) : Calls Tryz.prog 22 #[.agg #[.int .i64 7, .int .i64 0, .int .i64 0, .int .i64 5, .int .i64 6, .int .i64 0, .int .i64 2, .bool false], .slice none 0 0] W fun e w' => ∃ gc gt h1 h2 F1 F2, e = .returned (.tuple #[.pointer (some ⟨gc, 0, none⟩), .agg #[.pointer (some ⟨h1, 0, none⟩), .pointer (some ⟨h2, 0, none⟩)], .bool true]) ∧ DK W w' h1 h2 2147483648 1 (wr (cm 1 (fun _ => (0, 0)) 0) 0 4 6459427) (wr (cm 1 (fun _ => (0, 0)) 0) 0 4 6459427) F1 F2 ((gc, ccg h1 (.pointer (some ⟨gt, 0, none⟩)) 0 0 0 0 (.map none), TC) :: []) := by
  have h := one_any W ⟨7, 0, 0, 5, 6, 0, 2, false⟩ (by unfold InR; decide) (by rw [st2_w]; exact ⟨by decide, by decide⟩) (by rw [st2_w]; exact st2_d) (Lib.hid (by rw [st2_w]; exact rDec_35 6459427 ⟨by decide, by decide⟩ (by kernel_rfl))) none 0 0 (fun _ => (0, 0)) (no_cells _ _) (by decide)
  rw [st2_w] at h
  refine h.mono fun e w' q => ?_
  obtain ⟨gc, gt, h1, h2, F1, F2, rfl, d⟩ := q
  exact ⟨gc, gt, h1, h2, F1, F2, rfl, d.solo⟩
theorem st4_w : wordP ⟨7, 0, 0, 5, 6, 0, 4, false⟩ = 6463523 := by kernel_rfl
theorem st4_d : dec 6463523 = some ⟨7, 0, 0, 5, 6, 0, 4, false⟩ := by kernel_rfl
theorem one_st4 (W : World) : Calls Tryz.prog 22 #[.agg #[.int .i64 7, .int .i64 0, .int .i64 0, .int .i64 5, .int .i64 6, .int .i64 0, .int .i64 4, .bool false], .slice none 0 0] W fun e w' => ∃ gc gt h1 h2 F1 F2, e = .returned (.tuple #[.pointer (some ⟨gc, 0, none⟩), .agg #[.pointer (some ⟨h1, 0, none⟩), .pointer (some ⟨h2, 0, none⟩)], .bool true]) ∧ DK W w' h1 h2 2147483648 1 (wr (cm 1 (fun _ => (0, 0)) 0) 0 4 6463523) (wr (cm 1 (fun _ => (0, 0)) 0) 0 4 6463523) F1 F2 ((gc, ccg h1 (.pointer (some ⟨gt, 0, none⟩)) 0 0 0 0 (.map none), TC) :: []) := by
  have h := one_any W ⟨7, 0, 0, 5, 6, 0, 4, false⟩ (by unfold InR; decide) (by rw [st4_w]; exact ⟨by decide, by decide⟩) (by rw [st4_w]; exact st4_d) (Lib.hid (by rw [st4_w]; exact rDec_35 6463523 ⟨by decide, by decide⟩ (by kernel_rfl))) none 0 0 (fun _ => (0, 0)) (no_cells _ _) (by decide)
  rw [st4_w] at h
  refine h.mono fun e w' q => ?_
  obtain ⟨gc, gt, h1, h2, F1, F2, rfl, d⟩ := q
  exact ⟨gc, gt, h1, h2, F1, F2, rfl, d.solo⟩
theorem st8_w : wordP ⟨7, 0, 0, 5, 6, 0, 8, false⟩ = 6467619 := by kernel_rfl
theorem st8_d : dec 6467619 = some ⟨7, 0, 0, 5, 6, 0, 8, false⟩ := by kernel_rfl
theorem one_st8 (W : World) : Calls Tryz.prog 22 #[.agg #[.int .i64 7, .int .i64 0, .int .i64 0, .int .i64 5, .int .i64 6, .int .i64 0, .int .i64 8, .bool false], .slice none 0 0] W fun e w' => ∃ gc gt h1 h2 F1 F2, e = .returned (.tuple #[.pointer (some ⟨gc, 0, none⟩), .agg #[.pointer (some ⟨h1, 0, none⟩), .pointer (some ⟨h2, 0, none⟩)], .bool true]) ∧ DK W w' h1 h2 2147483648 1 (wr (cm 1 (fun _ => (0, 0)) 0) 0 4 6467619) (wr (cm 1 (fun _ => (0, 0)) 0) 0 4 6467619) F1 F2 ((gc, ccg h1 (.pointer (some ⟨gt, 0, none⟩)) 0 0 0 0 (.map none), TC) :: []) := by
  have h := one_any W ⟨7, 0, 0, 5, 6, 0, 8, false⟩ (by unfold InR; decide) (by rw [st8_w]; exact ⟨by decide, by decide⟩) (by rw [st8_w]; exact st8_d) (Lib.hid (by rw [st8_w]; exact rDec_35 6467619 ⟨by decide, by decide⟩ (by kernel_rfl))) none 0 0 (fun _ => (0, 0)) (no_cells _ _) (by decide)
  rw [st8_w] at h
  refine h.mono fun e w' q => ?_
  obtain ⟨gc, gt, h1, h2, F1, F2, rfl, d⟩ := q
  exact ⟨gc, gt, h1, h2, F1, F2, rfl, d.solo⟩
theorem ld1s_w : wordP ⟨6, 0, 7, 5, 0, 0, 1, true⟩ = 164739 := by kernel_rfl
theorem ld1s_d : dec 164739 = some ⟨6, 0, 7, 5, 0, 0, 1, true⟩ := by kernel_rfl
theorem enc_ld1s (W : World) : Calls Tryz.prog 27 #[.agg #[.int .i64 6, .int .i64 0, .int .i64 7, .int .i64 5, .int .i64 0, .int .i64 0, .int .i64 1, .bool true]] W fun e w' => e = .returned (.tuple #[.int .u32 164739, .bool true]) ∧ Below W.heap.size W w' := by
  have hi : InR ⟨6, 0, 7, 5, 0, 0, 1, true⟩ := by unfold InR; decide
  have hw := ld1s_w
  exact rEncode_at ⟨6, 0, 7, 5, 0, 0, 1, true⟩ 164739 hi ⟨by decide, by decide⟩ ld1s_d (Lib.hid (rDec_3 164739 ⟨by decide, by decide⟩ (by kernel_rfl))) (Lib.hid (by rw [← hw]; exact word_at _ hi)) W
theorem ld1u_w : wordP ⟨6, 0, 7, 5, 0, 0, 1, false⟩ = 181123 := by kernel_rfl
theorem ld1u_d : dec 181123 = some ⟨6, 0, 7, 5, 0, 0, 1, false⟩ := by kernel_rfl
theorem enc_ld1u (W : World) : Calls Tryz.prog 27 #[.agg #[.int .i64 6, .int .i64 0, .int .i64 7, .int .i64 5, .int .i64 0, .int .i64 0, .int .i64 1, .bool false]] W fun e w' => e = .returned (.tuple #[.int .u32 181123, .bool true]) ∧ Below W.heap.size W w' := by
  have hi : InR ⟨6, 0, 7, 5, 0, 0, 1, false⟩ := by unfold InR; decide
  have hw := ld1u_w
  exact rEncode_at ⟨6, 0, 7, 5, 0, 0, 1, false⟩ 181123 hi ⟨by decide, by decide⟩ ld1u_d (Lib.hid (rDec_3 181123 ⟨by decide, by decide⟩ (by kernel_rfl))) (Lib.hid (by rw [← hw]; exact word_at _ hi)) W
theorem ld2s_w : wordP ⟨6, 0, 7, 5, 0, 0, 2, true⟩ = 168835 := by kernel_rfl
theorem ld2s_d : dec 168835 = some ⟨6, 0, 7, 5, 0, 0, 2, true⟩ := by kernel_rfl
theorem enc_ld2s (W : World) : Calls Tryz.prog 27 #[.agg #[.int .i64 6, .int .i64 0, .int .i64 7, .int .i64 5, .int .i64 0, .int .i64 0, .int .i64 2, .bool true]] W fun e w' => e = .returned (.tuple #[.int .u32 168835, .bool true]) ∧ Below W.heap.size W w' := by
  have hi : InR ⟨6, 0, 7, 5, 0, 0, 2, true⟩ := by unfold InR; decide
  have hw := ld2s_w
  exact rEncode_at ⟨6, 0, 7, 5, 0, 0, 2, true⟩ 168835 hi ⟨by decide, by decide⟩ ld2s_d (Lib.hid (rDec_3 168835 ⟨by decide, by decide⟩ (by kernel_rfl))) (Lib.hid (by rw [← hw]; exact word_at _ hi)) W
theorem ld2u_w : wordP ⟨6, 0, 7, 5, 0, 0, 2, false⟩ = 185219 := by kernel_rfl
theorem ld2u_d : dec 185219 = some ⟨6, 0, 7, 5, 0, 0, 2, false⟩ := by kernel_rfl
theorem enc_ld2u (W : World) : Calls Tryz.prog 27 #[.agg #[.int .i64 6, .int .i64 0, .int .i64 7, .int .i64 5, .int .i64 0, .int .i64 0, .int .i64 2, .bool false]] W fun e w' => e = .returned (.tuple #[.int .u32 185219, .bool true]) ∧ Below W.heap.size W w' := by
  have hi : InR ⟨6, 0, 7, 5, 0, 0, 2, false⟩ := by unfold InR; decide
  have hw := ld2u_w
  exact rEncode_at ⟨6, 0, 7, 5, 0, 0, 2, false⟩ 185219 hi ⟨by decide, by decide⟩ ld2u_d (Lib.hid (rDec_3 185219 ⟨by decide, by decide⟩ (by kernel_rfl))) (Lib.hid (by rw [← hw]; exact word_at _ hi)) W
theorem ld4s_w : wordP ⟨6, 0, 7, 5, 0, 0, 4, true⟩ = 172931 := by kernel_rfl
theorem ld4s_d : dec 172931 = some ⟨6, 0, 7, 5, 0, 0, 4, true⟩ := by kernel_rfl
theorem enc_ld4s (W : World) : Calls Tryz.prog 27 #[.agg #[.int .i64 6, .int .i64 0, .int .i64 7, .int .i64 5, .int .i64 0, .int .i64 0, .int .i64 4, .bool true]] W fun e w' => e = .returned (.tuple #[.int .u32 172931, .bool true]) ∧ Below W.heap.size W w' := by
  have hi : InR ⟨6, 0, 7, 5, 0, 0, 4, true⟩ := by unfold InR; decide
  have hw := ld4s_w
  exact rEncode_at ⟨6, 0, 7, 5, 0, 0, 4, true⟩ 172931 hi ⟨by decide, by decide⟩ ld4s_d (Lib.hid (rDec_3 172931 ⟨by decide, by decide⟩ (by kernel_rfl))) (Lib.hid (by rw [← hw]; exact word_at _ hi)) W
theorem ld4u_w : wordP ⟨6, 0, 7, 5, 0, 0, 4, false⟩ = 189315 := by kernel_rfl
theorem ld4u_d : dec 189315 = some ⟨6, 0, 7, 5, 0, 0, 4, false⟩ := by kernel_rfl
theorem enc_ld4u (W : World) : Calls Tryz.prog 27 #[.agg #[.int .i64 6, .int .i64 0, .int .i64 7, .int .i64 5, .int .i64 0, .int .i64 0, .int .i64 4, .bool false]] W fun e w' => e = .returned (.tuple #[.int .u32 189315, .bool true]) ∧ Below W.heap.size W w' := by
  have hi : InR ⟨6, 0, 7, 5, 0, 0, 4, false⟩ := by unfold InR; decide
  have hw := ld4u_w
  exact rEncode_at ⟨6, 0, 7, 5, 0, 0, 4, false⟩ 189315 hi ⟨by decide, by decide⟩ ld4u_d (Lib.hid (rDec_3 189315 ⟨by decide, by decide⟩ (by kernel_rfl))) (Lib.hid (by rw [← hw]; exact word_at _ hi)) W
theorem ld8s_w : wordP ⟨6, 0, 7, 5, 0, 0, 8, true⟩ = 177027 := by kernel_rfl
theorem ld8s_d : dec 177027 = some ⟨6, 0, 7, 5, 0, 0, 8, true⟩ := by kernel_rfl
theorem enc_ld8s (W : World) : Calls Tryz.prog 27 #[.agg #[.int .i64 6, .int .i64 0, .int .i64 7, .int .i64 5, .int .i64 0, .int .i64 0, .int .i64 8, .bool true]] W fun e w' => e = .returned (.tuple #[.int .u32 177027, .bool true]) ∧ Below W.heap.size W w' := by
  have hi : InR ⟨6, 0, 7, 5, 0, 0, 8, true⟩ := by unfold InR; decide
  have hw := ld8s_w
  exact rEncode_at ⟨6, 0, 7, 5, 0, 0, 8, true⟩ 177027 hi ⟨by decide, by decide⟩ ld8s_d (Lib.hid (rDec_3 177027 ⟨by decide, by decide⟩ (by kernel_rfl))) (Lib.hid (by rw [← hw]; exact word_at _ hi)) W
/-- The hart behind its store. -/
def stH (C : Hrt) : Hrt := { ord C with pc := addW (ord C).pc 4, x := xup (ord C).x 0 0 }
theorem stH_fit {C : Hrt} (hf : Fit C) : Fit (stH C) := by
  have F := ord_fit hf
  refine ⟨fun i hi => ?_, wrap_w _, F.stvec, F.sscr, F.sepc, F.scause, F.stval, F.sie, F.sip, F.satp, F.resv⟩
  show U64 (xup (ord C).x 0 0 i)
  unfold xup
  split
  · exact ⟨by decide, by decide⟩
  · exact F.x i hi
def ldH (C : Hrt) (v : Int) : Hrt := { ord C with pc := addW (ord C).pc 4, x := xup (xup (ord C).x 7 v) 0 0 }
theorem step_st {W : World} {gc gm : Nat} {tv : Value} {m0 : Nat → Int} {F : Nat → Prop} {u n : Int} (hk : Kor W gc gm tv 0 2147483648 1 (wr m0 0 4 u) F) (C : Hrt) (hf : Fit C) (hpc : C.pc = 2147483648) (hsie : C.sie = 0) (hsat : C.satp = 0) (hu : W32 u) (hd : dec u = some ⟨7, 0, 0, 5, 6, 0, n, false⟩) (hop : fd u 6 0 = 35) (k : Nat) (hn : n = k) (hk8 : wholeB k = true) (va v : Int) (h5 : C.x 5 = va) (h6 : C.x 6 = v) (hva : U64 va) (hal : va % n = 0) (hh : hasB 2147483648 1 va k = true) :
    Calls Tryz.prog 23 #[.pointer (some ⟨gc, 0, none⟩), .agg (hc C), .int .u64 0] W fun e w' => e = .returned (.tuple #[.agg (hc (stH C)), .agg #[.int .i64 0, .int .i64 0, .int .u64 0, .int .u64 va, .bool false, .bool true]]) ∧ ∃ F', Kor w' gc gm tv 0 2147483648 1 (wr (wr m0 0 4 u) (va - 2147483648).toNat k v) F' ∧ Mod (fun k => k = gc ∨ F k) W w' ∧ ∀ k, F' k → F k ∨ W.heap.size ≤ k := by
  refine step_stores (s2 := storeP (decP (newS gc 0 (ord C)) u ⟨7, 0, 0, 5, 6, 0, n, false⟩) va) (mem2 := wr (wr m0 0 4 u) (va - 2147483648).toNat k v) hk C hf 0 hpc hsie hsat hu hd (Lib.hid (Dec_35 u hu hop)) rfl fun W' gs r F' y => ?_
  have x5 : xup C.x 0 0 5 = va := (xup_ne (i := 0) (j := 5) C.x 0 (by decide)).trans h5
  have x6 : xup C.x 0 0 6 = v := (xup_ne (i := 0) (j := 6) C.x 0 (by decide)).trans h6
  have q := stores_in y (ord_fit hf) (show (ord C).satp / 1152921504606846976 = 0 by rw [show (ord C).satp = 0 from hsat]; rfl) (show U64 (ord C).satp by rw [show (ord C).satp = 0 from hsat]; exact ⟨by decide, by decide⟩) (n1 := 5) rfl (by decide) (n2 := 6) rfl (by decide) (k := k) hn hk8 rfl (fun i hi => (ord_fit hf).x i hi) va (show va = addW (xup C.x 0 0 5) (IntKind.u64.wrap 0) by rw [x5, addW_zero hva]) hva hal hh
  rw [show (decP (newS gc 0 (ord C)) u ⟨7, 0, 0, 5, 6, 0, n, false⟩).was.x 6 = v from x6] at q
  exact q
theorem step_ld {W : World} {gc gm : Nat} {tv : Value} {mem : Nat → Int} {F : Nat → Prop} {u n : Int} {sg : Bool} (hk : Kor W gc gm tv 0 2147483648 1 mem F) (C : Hrt) (hf : Fit C) (hpc : (ord C).pc = 2147483652) (hl : num mem 4 2 = u % 65536) (hh' : num mem 6 2 = u / 65536) (hsie : C.sie = 0) (hsat : C.satp = 0) (hu : W32 u) (hd : dec u = some ⟨6, 0, 7, 5, 0, 0, n, sg⟩) (hop : fd u 6 0 = 3) (k : Nat) (hn : n = k) (hk8 : wholeB k = true) (va : Int) (h5 : C.x 5 = va) (hva : U64 va) (hal : va % n = 0) (hh : hasB 2147483648 1 va k = true) (x : Int) (hx : num mem (va - 2147483648).toNat k = x) (hxu : U64 x) :
    Calls Tryz.prog 23 #[.pointer (some ⟨gc, 0, none⟩), .agg (hc C), .int .u64 0] W fun e w' => e = .returned (.tuple #[.agg (hc (ldH C (extV x k sg))), .agg #[.int .i64 0, .int .i64 0, .int .u64 0, .int .u64 0, .bool false, .bool false]]) ∧ ∃ F', Kor w' gc gm tv 0 2147483648 1 mem F' ∧ Mod (fun k => k = gc ∨ F k) W w' ∧ ∀ k, F' k → F k ∨ W.heap.size ≤ k := by
  refine step_loads_at (s2 := rdP (decP (newS gc 0 (ord C)) u ⟨6, 0, 7, 5, 0, 0, n, sg⟩) 7 (extV x k sg)) hk C hf 0 2147483652 hpc (by decide) (by decide) (by decide) hl hh' hsie hsat hu hd (Lib.hid (Dec_3 u hu hop)) rfl fun W' gs r F' y => ?_
  have x5 : xup C.x 0 0 5 = va := (xup_ne (i := 0) (j := 5) C.x 0 (by decide)).trans h5
  refine (loads_in y (ord_fit hf) (show (ord C).satp / 1152921504606846976 = 0 by rw [show (ord C).satp = 0 from hsat]; rfl) (show U64 (ord C).satp by rw [show (ord C).satp = 0 from hsat]; exact ⟨by decide, by decide⟩) (nd := 7) rfl (by decide) (n1 := 5) rfl (by decide) (k := k) hn hk8 va (show va = addW (xup C.x 0 0 5) (IntKind.u64.wrap 0) by rw [x5, addW_zero hva]) hva hal hh (by rw [hx]; exact hxu)).mono ?_
  rw [hx]
  rintro e w' ⟨rfl, nb, m⟩
  exact ⟨rfl, y.out.set nb m rfl⟩
/-- The memory behind the store: the word of the load stands where it stood, and the number where it was stored. -/
theorem mem_at {u w2 v : Int} (a : Int) (k : Nat) (h64 : 2147483712 ≤ a) (hw : W32 w2) : num (wr (wr (wr (cm 1 (fun _ => (0, 0)) 0) 4 4 w2) 0 4 u) (a - 2147483648).toNat k v) 4 2 = w2 % 65536 ∧ num (wr (wr (wr (cm 1 (fun _ => (0, 0)) 0) 4 4 w2) 0 4 u) (a - 2147483648).toNat k v) 6 2 = w2 / 65536 ∧ num (wr (wr (wr (cm 1 (fun _ => (0, 0)) 0) 4 4 w2) 0 4 u) (a - 2147483648).toNat k v) (a - 2147483648).toNat k = v % 256 ^ k := by
  have h := hw.out
  have b : 64 ≤ (a - 2147483648).toNat := by omega
  refine ⟨?_, ?_, ?_⟩
  · rw [num_off _ _ _ (by omega), num_off _ _ _ (by omega)]
    show w2 / 256 ^ 0 % 256 + 256 * (w2 / 256 ^ 1 % 256 + 256 * 0) = _
    omega
  · rw [num_off _ _ _ (by omega), num_off _ _ _ (by omega)]
    show w2 / 256 ^ 2 % 256 + 256 * (w2 / 256 ^ 3 % 256 + 256 * 0) = _
    omega
  · have q := num_own (wr (wr (cm 1 (fun _ => (0, 0)) 0) 4 4 w2) 0 4 u) (a - 2147483648).toNat k v k 0 (Nat.zero_add k)
    simpa using q
set_option maxHeartbeats 8000000 in
theorem mem_law1 (h C H1 H2 : Hrt) (mX : Nat → Int) (size at_ v V p a w2 : Int) (sg b : Bool) (hV : V = if (sg && b) = true then IntKind.u64.wrap (v % 256 - 256) else v % 256) (hb : (v % 256 / 128 == 1) = b) (hp : 0 ≤ p ∧ p < 4032) (ea : a = 2147483712 + 1 * p) (hv : 0 ≤ v ∧ v < 18446744073709551616) (hw : W32 w2) (TP1 : Hid (∀ w, Calls Tryz.prog 25 #[.int .i64 size, .int .i64 4] w fun e w' => e = .returned (.int .i64 0) ∧ w = w')) (TP2 : Hid (∀ w, Calls Tryz.prog 25 #[.int .i64 at_, .int .i64 4032] w fun e w' => e = .returned (.int .i64 p) ∧ w = w')) (hcm : wr (wr (cm 1 (fun _ => (0, 0)) 0) 0 4 6455331) ((2147483652 : Int) - 2147483648).toNat 4 w2 = wr mX 0 4 6455331)
    (TC0 : Hid (∀ w, Calls Tryz.prog 24 #[.agg (hc h)] w fun e w' => e = .returned (.agg (hc C)) ∧ Below w.heap.size w w'))
    (TE : Hid (∀ W, Calls Tryz.prog 27 #[.agg #[.int .i64 6, .int .i64 0, .int .i64 7, .int .i64 5, .int .i64 0, .int .i64 0, .int .i64 1, .bool sg]] W fun e w' => e = .returned (.tuple #[.int .u32 w2, .bool true]) ∧ Below W.heap.size W w'))
    (TS1 : Hid (∀ (X : World) (gc gm : Nat) (tv : Value) (F : Nat → Prop), Kor X gc gm tv 0 2147483648 1 (wr mX 0 4 6455331) F → Calls Tryz.prog 23 #[.pointer (some ⟨gc, 0, none⟩), .agg (hc { C with x := xup (xup C.x 5 a) 6 v }), .int .u64 0] X fun e w' => e = .returned (.tuple #[.agg (hc H1), .agg #[.int .i64 0, .int .i64 0, .int .u64 0, .int .u64 a, .bool false, .bool true]]) ∧ ∃ F', Kor w' gc gm tv 0 2147483648 1 (wr (wr mX 0 4 6455331) (a - 2147483648).toNat 1 v) F' ∧ Mod (fun k => k = gc ∨ F k) X w' ∧ ∀ k, F' k → F k ∨ X.heap.size ≤ k))
    (TS2 : Hid (∀ (X : World) (gc gm : Nat) (tv : Value) (F : Nat → Prop), Kor X gc gm tv 0 2147483648 1 (wr (wr mX 0 4 6455331) (a - 2147483648).toNat 1 v) F → Calls Tryz.prog 23 #[.pointer (some ⟨gc, 0, none⟩), .agg (hc H1), .int .u64 0] X fun e w' => e = .returned (.tuple #[.agg (hc H2), .agg #[.int .i64 0, .int .i64 0, .int .u64 0, .int .u64 0, .bool false, .bool false]]) ∧ ∃ F', Kor w' gc gm tv 0 2147483648 1 (wr (wr mX 0 4 6455331) (a - 2147483648).toNat 1 v) F' ∧ Mod (fun k => k = gc ∨ F k) X w' ∧ ∀ k, F' k → F k ∨ X.heap.size ≤ k))
    (r7 : (hc H2)[7]? = some (.int .u64 V)) (r32 : (hc H2)[32]? = some (.int .u64 2147483656)) (W : World) :
    Calls Tryz.prog 9 #[.agg (hc h), .int .i64 size, .int .i64 at_, .int .u64 v, .bool sg] W fun e w' => e = .returned (.bool true) ∧ Below W.heap.size W w' := by
  have ha : 0 ≤ a ∧ a < 18446744073709551616 := by omega
  have hh : hasB 2147483648 1 a 1 = true := by simp only [hasB, decide_eq_true_eq]; omega
  have q1 : IntKind.i64.wrap (1 * p) = 1 * p := IntWalk.i64_in _ (by omega)
  have q2 : IntKind.i64.wrap (2147483712 + 1 * p) = a := by rw [ea]; exact IntWalk.i64_in _ (by omega)
  have q3 : IntKind.u64.wrap a = a := IntWalk.u64_in _ (by omega)
  have q1a : IntKind.i64.wrap p = p := IntWalk.i64_in _ (by omega)
  have q1b : wrap64 p = p := by unfold wrap64; omega
  have q2a : IntKind.i64.wrap (2147483712 + p) = a := by rw [show a = 2147483712 + p by omega]; exact IntWalk.i64_in _ (by omega)
  have q2b : wrap64 (2147483712 + p) = a := by unfold wrap64; omega
  have e32 := wrap32 hw
  have HW := Lib.hid hw
  obtain ⟨v0, v1⟩ := hv
  have hv : 0 ≤ v ∧ v < 18446744073709551616 := ⟨v0, v1⟩
  clear hp hw ea
  cases sg
  rotate_left
  cases b
  all_goals (first | simp only [Bool.and_true, Bool.and_false, Bool.false_eq_true, if_false, if_true, Bool.true_and, Bool.false_and] at hV | skip)
  all_goals subst hV
  all_goals (
    go_enter Tryz.func9, Tryz.ntmps9
    have ST := Lib.hid (Kn.nil (S := Step.Nil) (W := W))
    go_wp2_with (first
      | ((with_reducible refine Step.gate_box (t := 25) rfl ?_); refine Step.fresh (cs := hc h) (T := 25) rfl ?hr ?_; (case hr => first | (go_simp; done) | (go_simp; rfl)); intro g5 w1 b hg hb; replace ST := Lib.hid (ST.out.made b hg hb); clear b hb; clear hg)
      | ((with_reducible refine Step.gate_load (t := 25) rfl ?_); refine Step.loadAll ST.out.at0 rfl rfl rfl Tryz.underlying25 rfl (size_hart _) ?_)
      | (go_at_call 24; (with_reducible refine (TC0.out _).mono ?_); rintro e w' ⟨rfl, hb⟩; replace ST := Lib.hid (ST.out.call hb); clear hb)
      | ((with_reducible refine Step.gate_store (t := 25) rfl ?_); refine Step.storeAll ST.out.at0 rfl rfl rfl rfl rfl (size_hart _) rfl (hc_all _) ?_; intro w3 nb m; replace ST := Lib.hid (ST.out.set0 nb m); clear nb m)
      | ((with_reducible refine Step.gate_build (t := 53) rfl ?_); refine Step.freshSlice (cs := #[.int .i64 1, .int .i64 2, .int .i64 4, .int .i64 8]) (T := 3) (n := 4) (m := 4) rfl ?hr ?_; (case hr => first | (go_simp; done) | (go_simp; rfl)); intro gs w1 b hg hb; replace ST := Lib.hid (ST.out.made b hg hb); clear b hg hb)
      | (go_at_call 25; (with_reducible refine (TP1.out _).mono ?_); rintro e w' ⟨rfl, rfl⟩)
      | (go_at_call 25; (with_reducible refine (TP2.out _).mono ?_); rintro e w' ⟨rfl, rfl⟩)
      | ((with_reducible refine Step.gate_load (t := 3) rfl ?_); refine Step.load ST.out.at0 rfl rfl rfl pl_int rfl ?_)
      | ((with_reducible refine Step.gate_store (t := 22) rfl ?_); refine Step.store ST.out.at1 rfl rfl rfl rfl rfl pl_u64 rfl rfl ?_; intro w3 nb m; simp [go_sem, set_x5, set_x6] at nb; replace ST := Lib.hid (ST.out.set1 nb m); clear nb m)
      | (go_at_call 22; (with_reducible refine (one_st1 _).mono ?_); rintro e w9 ⟨gc, gt, h1, h2, F1, F2, rfl, d⟩; replace ST := Lib.hid (DK.join ST.out d); clear d)
      | ((with_reducible refine Step.gate_alloc (t := 40) rfl ?_); refine Step.freshAlloc rfl rfl (Duo.alloc_agg Duo.zero_two) ?_; intro g14 w2' b hg hb; replace ST := Lib.hid (ST.out.made b hg hb); clear b hb hg)
      | ((with_reducible refine Step.gate_store (t := 40) rfl ?_); refine Step.storeAll (vs := #[.pointer (some ⟨h1, 0, none⟩), .pointer (some ⟨h2, 0, none⟩)]) ST.out.kn.at0 rfl rfl rfl rfl rfl size_two rfl rfl ?_; intro w3 nb m; replace ST := Lib.hid (ST.out.set (ST.out.kn.set0 nb m) m ⟨_, List.mem_of_getElem? (i := 0) rfl, rfl⟩ rfl); clear nb m)
      | ((with_reducible refine Step.gate_load (t := 40) rfl ?_); refine Step.loadAll ST.out.kn.at0 rfl rfl rfl Tryz.underlying40 rfl size_two ?_)
      | ((with_reducible refine Step.gate_load (t := 25) rfl ?_); refine Step.loadAll ST.out.kn.at3 rfl rfl rfl Tryz.underlying25 rfl (size_hart _) ?_)
      | ((with_reducible refine Step.gate_load (t := 25) rfl ?_); refine Step.loadAll ST.out.kn.at1 rfl rfl rfl Tryz.underlying25 rfl (size_hart _) ?_)
      | (go_at_call 27; (with_reducible refine (TE.out _).mono ?_); rintro e w' ⟨rfl, hb⟩; replace ST := Lib.hid (ST.out.call hb); clear hb)
      | (go_at_call 28; refine (Duo.wboth4 ST.out.duo 2147483652 w2 (by decide) (by have := HW.out.out; omega) (by decide)).mono ?_; rintro e w9 ⟨rfl, F1', F2', hd, f1, f2, m⟩; rw [hcm] at hd; replace ST := Lib.hid (ST.out.duoTurn hd f1 f2 m); clear hd f1 f2 m)
      | (go_at_call 23; (with_reducible refine (TS1.out _ _ _ _ _ ST.out.core1).mono ?_); rintro e w10 ⟨rfl, F3, hk, m, hF⟩; replace ST := Lib.hid (ST.out.stepK1 hk m hF); clear hk m hF)
      | (go_at_call 23; (with_reducible refine (TS2.out _ _ _ _ _ ST.out.kor).mono ?_); rintro e w10 ⟨rfl, F5, hk, m, hF⟩; replace ST := Lib.hid (ST.out.stepD hk m hF); clear hk m hF)
      | ((with_reducible refine Step.gate_alloc (t := 25) rfl ?_); refine Step.freshAlloc rfl rfl (alloc_agg zero_hart) ?_; (first | (have this := ST.out.kor; intro g18 w2' b hg hb; clear this) | intro g20 w2' b hg hb); replace ST := Lib.hid (ST.out.made b hg hb); clear b hb hg)
      | ((with_reducible refine Step.gate_alloc (t := 46) rfl ?_); refine Step.freshAlloc rfl rfl (alloc_agg zero_ev) ?_; (first | (have this := ST.out.kor; intro g19 w2' b hg hb; clear this) | intro g21 w2' b hg hb); replace ST := Lib.hid (ST.out.made b hg hb); clear b hb hg)
      | ((with_reducible refine Step.gate_store (t := 25) rfl ?_); refine Step.storeAll ST.out.kn.at1 rfl rfl rfl rfl rfl (size_hart _) rfl (hc_all _) ?_; intro w3 nb m; replace ST := Lib.hid (ST.out.set (ST.out.kn.set1 nb m) m ⟨_, List.mem_of_getElem? (i := 1) rfl, rfl⟩ rfl); clear nb m)
      | ((with_reducible refine Step.gate_store (t := 46) rfl ?_); refine Step.storeAll (vs := #[.int .i64 0, .int .i64 0, .int .u64 0, .int .u64 a, .bool false, .bool true]) ST.out.kn.at0 rfl rfl rfl rfl rfl size_ev rfl rfl ?_; intro w3 nb m; replace ST := Lib.hid (ST.out.set (ST.out.kn.set0 nb m) m ⟨_, List.mem_of_getElem? (i := 0) rfl, rfl⟩ rfl); clear nb m)
      | ((with_reducible refine Step.gate_store (t := 46) rfl ?_); refine Step.storeAll (vs := #[.int .i64 0, .int .i64 0, .int .u64 0, .int .u64 0, .bool false, .bool false]) ST.out.kn.at0 rfl rfl rfl rfl rfl size_ev rfl rfl ?_; intro w3 nb m; replace ST := Lib.hid (ST.out.set (ST.out.kn.set0 nb m) m ⟨_, List.mem_of_getElem? (i := 0) rfl, rfl⟩ rfl); clear nb m)
      | ((with_reducible refine Step.gate_load (t := 38) rfl ?_); refine Step.loadG ST.out.kn.at2 rfl rfl rfl pl_pr3 rfl ?_)
      | (go_at_call 29; refine (Co.rwrite ST.out a v 1 1 rfl ha hv (by decide) hh).mono ?_; rintro e w10 ⟨rfl, F4, d⟩; replace ST := Lib.hid d; clear d)
      | ((with_reducible refine Step.gate_load (t := 46) rfl ?_); refine loadAllW ST.out.kn.at2 rfl rfl rfl Tryz.underlying46 rfl size_ev ?_)
      | ((with_reducible refine Step.gate_load (t := 46) rfl ?_); refine loadAllW ST.out.kn.at0 rfl rfl rfl Tryz.underlying46 rfl size_ev ?_)
      | ((with_reducible refine Step.gate_load (t := 40) rfl ?_); refine loadAllW ST.out.kn.at4 rfl rfl rfl Tryz.underlying40 rfl size_two ?_)
      | ((with_reducible refine Step.gate_load (t := 22) rfl ?_); refine Step.loadG ST.out.kn.at1 rfl rfl rfl pl_u64 r7 ?_)
      | ((with_reducible refine Step.gate_load (t := 22) rfl ?_); refine Step.loadG ST.out.kn.at1 rfl rfl rfl pl_u64 r32 ?_)
      | (go_at_call 26; (with_reducible refine (same_dk ST.out).mono ?_); rintro e w' ⟨rfl, hb⟩; replace ST := Lib.hid (ST.out.call hb); clear hb)
      | (go_at_call 15; (with_reducible refine (awake_any _).mono ?_); rintro e w' ⟨rfl, hb⟩; replace ST := Lib.hid (ST.out.call hb); clear hb))
    all_goals go_ret
    all_goals exact ⟨rfl, ST.out.below⟩)
set_option maxHeartbeats 8000000 in
theorem mem_law2 (h C H1 H2 : Hrt) (mX : Nat → Int) (size at_ v V p a w2 : Int) (sg b : Bool) (hV : V = if (sg && b) = true then IntKind.u64.wrap (v % 65536 - 65536) else v % 65536) (hb : (v % 65536 / 32768 == 1) = b) (hp : 0 ≤ p ∧ p < 2016) (ea : a = 2147483712 + 2 * p) (hv : 0 ≤ v ∧ v < 18446744073709551616) (hw : W32 w2) (TP1 : Hid (∀ w, Calls Tryz.prog 25 #[.int .i64 size, .int .i64 4] w fun e w' => e = .returned (.int .i64 1) ∧ w = w')) (TP2 : Hid (∀ w, Calls Tryz.prog 25 #[.int .i64 at_, .int .i64 2016] w fun e w' => e = .returned (.int .i64 p) ∧ w = w')) (hcm : wr (wr (cm 1 (fun _ => (0, 0)) 0) 0 4 6459427) ((2147483652 : Int) - 2147483648).toNat 4 w2 = wr mX 0 4 6459427)
    (TC0 : Hid (∀ w, Calls Tryz.prog 24 #[.agg (hc h)] w fun e w' => e = .returned (.agg (hc C)) ∧ Below w.heap.size w w'))
    (TE : Hid (∀ W, Calls Tryz.prog 27 #[.agg #[.int .i64 6, .int .i64 0, .int .i64 7, .int .i64 5, .int .i64 0, .int .i64 0, .int .i64 2, .bool sg]] W fun e w' => e = .returned (.tuple #[.int .u32 w2, .bool true]) ∧ Below W.heap.size W w'))
    (TS1 : Hid (∀ (X : World) (gc gm : Nat) (tv : Value) (F : Nat → Prop), Kor X gc gm tv 0 2147483648 1 (wr mX 0 4 6459427) F → Calls Tryz.prog 23 #[.pointer (some ⟨gc, 0, none⟩), .agg (hc { C with x := xup (xup C.x 5 a) 6 v }), .int .u64 0] X fun e w' => e = .returned (.tuple #[.agg (hc H1), .agg #[.int .i64 0, .int .i64 0, .int .u64 0, .int .u64 a, .bool false, .bool true]]) ∧ ∃ F', Kor w' gc gm tv 0 2147483648 1 (wr (wr mX 0 4 6459427) (a - 2147483648).toNat 2 v) F' ∧ Mod (fun k => k = gc ∨ F k) X w' ∧ ∀ k, F' k → F k ∨ X.heap.size ≤ k))
    (TS2 : Hid (∀ (X : World) (gc gm : Nat) (tv : Value) (F : Nat → Prop), Kor X gc gm tv 0 2147483648 1 (wr (wr mX 0 4 6459427) (a - 2147483648).toNat 2 v) F → Calls Tryz.prog 23 #[.pointer (some ⟨gc, 0, none⟩), .agg (hc H1), .int .u64 0] X fun e w' => e = .returned (.tuple #[.agg (hc H2), .agg #[.int .i64 0, .int .i64 0, .int .u64 0, .int .u64 0, .bool false, .bool false]]) ∧ ∃ F', Kor w' gc gm tv 0 2147483648 1 (wr (wr mX 0 4 6459427) (a - 2147483648).toNat 2 v) F' ∧ Mod (fun k => k = gc ∨ F k) X w' ∧ ∀ k, F' k → F k ∨ X.heap.size ≤ k))
    (r7 : (hc H2)[7]? = some (.int .u64 V)) (r32 : (hc H2)[32]? = some (.int .u64 2147483656)) (W : World) :
    Calls Tryz.prog 9 #[.agg (hc h), .int .i64 size, .int .i64 at_, .int .u64 v, .bool sg] W fun e w' => e = .returned (.bool true) ∧ Below W.heap.size W w' := by
  have ha : 0 ≤ a ∧ a < 18446744073709551616 := by omega
  have hh : hasB 2147483648 1 a 2 = true := by simp only [hasB, decide_eq_true_eq]; omega
  have q1 : IntKind.i64.wrap (2 * p) = 2 * p := IntWalk.i64_in _ (by omega)
  have q2 : IntKind.i64.wrap (2147483712 + 2 * p) = a := by rw [ea]; exact IntWalk.i64_in _ (by omega)
  have q3 : IntKind.u64.wrap a = a := IntWalk.u64_in _ (by omega)
  have e32 := wrap32 hw
  have HW := Lib.hid hw
  obtain ⟨v0, v1⟩ := hv
  have hv : 0 ≤ v ∧ v < 18446744073709551616 := ⟨v0, v1⟩
  clear hp hw ea
  cases sg
  rotate_left
  cases b
  all_goals (first | simp only [Bool.and_true, Bool.and_false, Bool.false_eq_true, if_false, if_true, Bool.true_and, Bool.false_and] at hV | skip)
  all_goals subst hV
  all_goals (
    go_enter Tryz.func9, Tryz.ntmps9
    have ST := Lib.hid (Kn.nil (S := Step.Nil) (W := W))
    go_wp2_with (first
      | ((with_reducible refine Step.gate_box (t := 25) rfl ?_); refine Step.fresh (cs := hc h) (T := 25) rfl ?hr ?_; (case hr => first | (go_simp; done) | (go_simp; rfl)); intro g5 w1 b hg hb; replace ST := Lib.hid (ST.out.made b hg hb); clear b hb; clear hg)
      | ((with_reducible refine Step.gate_load (t := 25) rfl ?_); refine Step.loadAll ST.out.at0 rfl rfl rfl Tryz.underlying25 rfl (size_hart _) ?_)
      | (go_at_call 24; (with_reducible refine (TC0.out _).mono ?_); rintro e w' ⟨rfl, hb⟩; replace ST := Lib.hid (ST.out.call hb); clear hb)
      | ((with_reducible refine Step.gate_store (t := 25) rfl ?_); refine Step.storeAll ST.out.at0 rfl rfl rfl rfl rfl (size_hart _) rfl (hc_all _) ?_; intro w3 nb m; replace ST := Lib.hid (ST.out.set0 nb m); clear nb m)
      | ((with_reducible refine Step.gate_build (t := 53) rfl ?_); refine Step.freshSlice (cs := #[.int .i64 1, .int .i64 2, .int .i64 4, .int .i64 8]) (T := 3) (n := 4) (m := 4) rfl ?hr ?_; (case hr => first | (go_simp; done) | (go_simp; rfl)); intro gs w1 b hg hb; replace ST := Lib.hid (ST.out.made b hg hb); clear b hg hb)
      | (go_at_call 25; (with_reducible refine (TP1.out _).mono ?_); rintro e w' ⟨rfl, rfl⟩)
      | (go_at_call 25; (with_reducible refine (TP2.out _).mono ?_); rintro e w' ⟨rfl, rfl⟩)
      | ((with_reducible refine Step.gate_load (t := 3) rfl ?_); refine Step.load ST.out.at0 rfl rfl rfl pl_int rfl ?_)
      | ((with_reducible refine Step.gate_store (t := 22) rfl ?_); refine Step.store ST.out.at1 rfl rfl rfl rfl rfl pl_u64 rfl rfl ?_; intro w3 nb m; simp [go_sem, set_x5, set_x6] at nb; replace ST := Lib.hid (ST.out.set1 nb m); clear nb m)
      | (go_at_call 22; (with_reducible refine (one_st2 _).mono ?_); rintro e w9 ⟨gc, gt, h1, h2, F1, F2, rfl, d⟩; replace ST := Lib.hid (DK.join ST.out d); clear d)
      | ((with_reducible refine Step.gate_alloc (t := 40) rfl ?_); refine Step.freshAlloc rfl rfl (Duo.alloc_agg Duo.zero_two) ?_; intro g14 w2' b hg hb; replace ST := Lib.hid (ST.out.made b hg hb); clear b hb hg)
      | ((with_reducible refine Step.gate_store (t := 40) rfl ?_); refine Step.storeAll (vs := #[.pointer (some ⟨h1, 0, none⟩), .pointer (some ⟨h2, 0, none⟩)]) ST.out.kn.at0 rfl rfl rfl rfl rfl size_two rfl rfl ?_; intro w3 nb m; replace ST := Lib.hid (ST.out.set (ST.out.kn.set0 nb m) m ⟨_, List.mem_of_getElem? (i := 0) rfl, rfl⟩ rfl); clear nb m)
      | ((with_reducible refine Step.gate_load (t := 40) rfl ?_); refine Step.loadAll ST.out.kn.at0 rfl rfl rfl Tryz.underlying40 rfl size_two ?_)
      | ((with_reducible refine Step.gate_load (t := 25) rfl ?_); refine Step.loadAll ST.out.kn.at3 rfl rfl rfl Tryz.underlying25 rfl (size_hart _) ?_)
      | ((with_reducible refine Step.gate_load (t := 25) rfl ?_); refine Step.loadAll ST.out.kn.at1 rfl rfl rfl Tryz.underlying25 rfl (size_hart _) ?_)
      | (go_at_call 27; (with_reducible refine (TE.out _).mono ?_); rintro e w' ⟨rfl, hb⟩; replace ST := Lib.hid (ST.out.call hb); clear hb)
      | (go_at_call 28; refine (Duo.wboth4 ST.out.duo 2147483652 w2 (by decide) (by have := HW.out.out; omega) (by decide)).mono ?_; rintro e w9 ⟨rfl, F1', F2', hd, f1, f2, m⟩; rw [hcm] at hd; replace ST := Lib.hid (ST.out.duoTurn hd f1 f2 m); clear hd f1 f2 m)
      | (go_at_call 23; (with_reducible refine (TS1.out _ _ _ _ _ ST.out.core1).mono ?_); rintro e w10 ⟨rfl, F3, hk, m, hF⟩; replace ST := Lib.hid (ST.out.stepK1 hk m hF); clear hk m hF)
      | (go_at_call 23; (with_reducible refine (TS2.out _ _ _ _ _ ST.out.kor).mono ?_); rintro e w10 ⟨rfl, F5, hk, m, hF⟩; replace ST := Lib.hid (ST.out.stepD hk m hF); clear hk m hF)
      | ((with_reducible refine Step.gate_alloc (t := 25) rfl ?_); refine Step.freshAlloc rfl rfl (alloc_agg zero_hart) ?_; (first | (have this := ST.out.kor; intro g18 w2' b hg hb; clear this) | intro g20 w2' b hg hb); replace ST := Lib.hid (ST.out.made b hg hb); clear b hb hg)
      | ((with_reducible refine Step.gate_alloc (t := 46) rfl ?_); refine Step.freshAlloc rfl rfl (alloc_agg zero_ev) ?_; (first | (have this := ST.out.kor; intro g19 w2' b hg hb; clear this) | intro g21 w2' b hg hb); replace ST := Lib.hid (ST.out.made b hg hb); clear b hb hg)
      | ((with_reducible refine Step.gate_store (t := 25) rfl ?_); refine Step.storeAll ST.out.kn.at1 rfl rfl rfl rfl rfl (size_hart _) rfl (hc_all _) ?_; intro w3 nb m; replace ST := Lib.hid (ST.out.set (ST.out.kn.set1 nb m) m ⟨_, List.mem_of_getElem? (i := 1) rfl, rfl⟩ rfl); clear nb m)
      | ((with_reducible refine Step.gate_store (t := 46) rfl ?_); refine Step.storeAll (vs := #[.int .i64 0, .int .i64 0, .int .u64 0, .int .u64 a, .bool false, .bool true]) ST.out.kn.at0 rfl rfl rfl rfl rfl size_ev rfl rfl ?_; intro w3 nb m; replace ST := Lib.hid (ST.out.set (ST.out.kn.set0 nb m) m ⟨_, List.mem_of_getElem? (i := 0) rfl, rfl⟩ rfl); clear nb m)
      | ((with_reducible refine Step.gate_store (t := 46) rfl ?_); refine Step.storeAll (vs := #[.int .i64 0, .int .i64 0, .int .u64 0, .int .u64 0, .bool false, .bool false]) ST.out.kn.at0 rfl rfl rfl rfl rfl size_ev rfl rfl ?_; intro w3 nb m; replace ST := Lib.hid (ST.out.set (ST.out.kn.set0 nb m) m ⟨_, List.mem_of_getElem? (i := 0) rfl, rfl⟩ rfl); clear nb m)
      | ((with_reducible refine Step.gate_load (t := 38) rfl ?_); refine Step.loadG ST.out.kn.at2 rfl rfl rfl pl_pr3 rfl ?_)
      | (go_at_call 29; refine (Co.rwrite ST.out a v 2 2 rfl ha hv (by decide) hh).mono ?_; rintro e w10 ⟨rfl, F4, d⟩; replace ST := Lib.hid d; clear d)
      | ((with_reducible refine Step.gate_load (t := 46) rfl ?_); refine loadAllW ST.out.kn.at2 rfl rfl rfl Tryz.underlying46 rfl size_ev ?_)
      | ((with_reducible refine Step.gate_load (t := 46) rfl ?_); refine loadAllW ST.out.kn.at0 rfl rfl rfl Tryz.underlying46 rfl size_ev ?_)
      | ((with_reducible refine Step.gate_load (t := 40) rfl ?_); refine loadAllW ST.out.kn.at4 rfl rfl rfl Tryz.underlying40 rfl size_two ?_)
      | ((with_reducible refine Step.gate_load (t := 22) rfl ?_); refine Step.loadG ST.out.kn.at1 rfl rfl rfl pl_u64 r7 ?_)
      | ((with_reducible refine Step.gate_load (t := 22) rfl ?_); refine Step.loadG ST.out.kn.at1 rfl rfl rfl pl_u64 r32 ?_)
      | (go_at_call 26; (with_reducible refine (same_dk ST.out).mono ?_); rintro e w' ⟨rfl, hb⟩; replace ST := Lib.hid (ST.out.call hb); clear hb)
      | (go_at_call 15; (with_reducible refine (awake_any _).mono ?_); rintro e w' ⟨rfl, hb⟩; replace ST := Lib.hid (ST.out.call hb); clear hb))
    all_goals go_ret
    all_goals exact ⟨rfl, ST.out.below⟩)
end Go.Proofs.YthkodjkkcgdmfaaGreat.Hart
end
