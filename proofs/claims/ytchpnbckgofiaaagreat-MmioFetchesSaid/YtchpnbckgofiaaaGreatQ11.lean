/- Parts of the walks and laws for the claim: RefT; no conditions beyond the theorems' own. -/
import Derived.Test.YtchpnbckgofiaaaGreatQ10
section
namespace Go.Proofs.YtchpnbckgofiaaaGreat.Tab
open Go Go.RowKit Go.Proofs.YtchpnbckgofiaaaGreat.Step Go.Proofs.YtchpnbckgofiaaaGreat.Mem Go.Proofs.YtchpnbckgofiaaaGreat.Duo
set_option linter.unusedVariables false
set_option linter.unusedSimpArgs false
set_option maxRecDepth 100000
theorem canon_r {va : Int} (h : U64 va) : decide (549755813888 ≤ IntKind.u64.wrap (va + 274877906944)) = !canon va := by
  obtain ⟨h0, h1⟩ := h
  unfold canon
  rw [IntKind.wrap_u64]
  by_cases g : va < 274877906944
  · rw [decide_eq_true g]; simp; omega
  by_cases g2 : 18446743798831644672 ≤ va
  · rw [decide_eq_true g2]; simp; omega
  rw [decide_eq_false g, decide_eq_false g2]; simp; omega
set_option maxHeartbeats 8000000 in
theorem rtranslate_any {W : World} {h n : Nat} {base : Int} {mem : Nat → Int} {F : Nat → Prop} (r : Ref.Mem W h base n mem F) (satp root va a : Int) (user sum mxr : Bool) (hs : U64 satp) (hr : U64 root) (hv : U64 va) :
    Calls Tryz.prog 35 #[.pointer (some ⟨h, 0, none⟩), .agg (envV satp root user sum mxr), .int .u64 va, .int .i64 a] W fun e W' => e = .returned (.agg (placeV (translate base n mem satp root user sum mxr va a))) ∧ Below W.heap.size W W' := by
  obtain ⟨n1, n2, b1, b2⟩ := r.size
  have hby := fun i (hi : i < n * 4096) => r.byte hi
  have TF := translate_fst base n mem satp root user sum mxr va a
  have FE : fst (virt base n mem root) satp user sum mxr va a = (if satp / 1152921504606846976 = 0 then .ok va else if satp / 1152921504606846976 ≠ 8 then .page else if canon va = false then .page else fstOf user sum mxr va a (down (virt base n mem root) va 3 (satp % 17592186044416))) := rfl
  have R := Lib.hid r
  have HR := Lib.hid hr
  have HV := Lib.hid hv
  have hu := Tryz.underlying79
  have hu2 := Tryz.underlying82
  have HW := Lib.hid (fun w (v : Ref.Mem w h base n mem F) => rwalk_any v satp root va a user sum mxr hs hr hv)
  have GX : ∀ ga, fst (virt base n mem root) satp user sum mxr va a = .ok ga → U64 ga := fun ga e => by
    have e2 : fst (virtW base n mem root) satp user sum mxr va a = .ok ga := by rw [fst_congr satp user sum mxr va a (fun t l ht => virtW_in ht (ix_u va l))]; exact e
    exact fst_ok hv (fun t l => (virtAt_u (root := root) b1 hby (vaddr_u t (ix va l))).1) e2
  have HGX := Lib.hid GX
  have cr := canon_r hv
  unfold envV at HW
  unfold envV
  clear r hs hr hv hby n1 n2 b1 b2 GX
  by_cases m0 : satp / 1152921504606846976 = 0
  · have d0 : (satp / 1152921504606846976 != 0) = false := by simpa using m0
    have d8 : (satp / 1152921504606846976 == 8) = false := by rw [m0]; decide
    rw [if_pos m0] at FE
    rw [FE] at TF
    have HGV := Lib.hid (HGX.out va FE)
    have TF2 : translate base n mem satp root user sum mxr va a = (if (guest base n mem root va a).2.2 ≠ 0 then ⟨0, va, (guest base n mem root va a).2.2, false⟩ else ⟨(guest base n mem root va a).1, va, 0, false⟩) := TF
    have HGA := Lib.hid (fun w (v : Ref.Mem w h base n mem F) => rguest_any v root va a HR.out HGV.out)
    clear TF FE m0 cr HW
    generalize guest base n mem root va a = G at TF2 HGA
    obtain ⟨x, pm, q⟩ := G
    simp only at TF2 HGA
    by_cases hq : q = 0
    · subst hq
      rw [if_neg (fun h => h rfl)] at TF2
      have E := Lib.hid TF2
      clear TF2
      go_enter Tryz.func35, Tryz.ntmps35
      go_wp2_with (first
        | ((with_reducible refine Step.gate_box (t := 82) rfl ?_); refine Step.fresh (cs := #[.int .u64 satp, .int .u64 root, .bool user, .bool sum, .bool mxr]) (T := 82) rfl ?hr ?_; (case hr => first | (go_simp; done) | (go_simp; rfl)); intro q5 w1 b hg hb; have A5 := Lib.hid b; have HB1 := Lib.hid hb; have S1 := Lib.hid (show W.heap.size ≤ q5 ∧ q5 < w1.heap.size from ⟨hg, b.lt⟩); clear b hg hb)
                | (refine Step.freshAlloc rfl rfl (alloc_agg zero_place) ?_; intro g8 w2 b hg hb; have A8 := Lib.hid b; have A52 := Lib.hid (A5.out.below hb); have HB2 := Lib.hid (HB1.out.trans (hb.mono HB1.out.size)); have R2 := Lib.hid (R.out.below HB2.out); have S2 := Lib.hid (show w1.heap.size ≤ g8 ∧ g8 < w2.heap.size from ⟨hg, b.lt⟩); have HS8 := Lib.hid (show W.heap.size ≤ g8 from by have := S1.out; omega); have k0 := A52.out.cell 0; have k1 := A52.out.cell 1; simp only [List.getElem?_toArray, List.getElem?_cons_zero, List.getElem?_cons_succ] at k0 k1; clear b hg hb)
        | (go_at_call 62; refine (HGA.out _ R2.out).mono ?_; rintro e w3 ⟨rfl, hb⟩; have A83 := Lib.hid (A8.out.below hb); have HB3 := Lib.hid (HB2.out.trans (hb.mono HB2.out.size)); clear hb k0 k1)
        | (refine Step.storeAll (vs := #[.int .u64 x, .int .u64 va, .int .i64 0, .bool false]) A83.out rfl rfl rfl rfl rfl size_place rfl rfl ?_; intro w9 nb m; have N9 := Lib.hid nb; have HB9 := Lib.hid (below_mod HB3.out HB3.out.size m (fun k hk e => by obtain rfl : k = g8 := e; exact HS8.out)); clear nb m))
      refine bodyPost_ret (results_row1 rfl _ _ g8 _ _ _ rfl N9.out hu rfl size_place) rfl ⟨by rw [E.out]; rfl, HB9.out⟩
    · rw [if_pos hq] at TF2
      have E := Lib.hid TF2
      have dq : (q != 0) = true := by simpa using hq
      clear TF2 hq
      go_enter Tryz.func35, Tryz.ntmps35
      go_wp2_with (first
        | ((with_reducible refine Step.gate_box (t := 82) rfl ?_); refine Step.fresh (cs := #[.int .u64 satp, .int .u64 root, .bool user, .bool sum, .bool mxr]) (T := 82) rfl ?hr ?_; (case hr => first | (go_simp; done) | (go_simp; rfl)); intro q5 w1 b hg hb; have A5 := Lib.hid b; have HB1 := Lib.hid hb; have S1 := Lib.hid (show W.heap.size ≤ q5 ∧ q5 < w1.heap.size from ⟨hg, b.lt⟩); clear b hg hb)
                | (refine Step.freshAlloc rfl rfl (alloc_agg zero_place) ?_; intro g8 w2 b hg hb; have A8 := Lib.hid b; have A52 := Lib.hid (A5.out.below hb); have HB2 := Lib.hid (HB1.out.trans (hb.mono HB1.out.size)); have R2 := Lib.hid (R.out.below HB2.out); have S2 := Lib.hid (show w1.heap.size ≤ g8 ∧ g8 < w2.heap.size from ⟨hg, b.lt⟩); have HS8 := Lib.hid (show W.heap.size ≤ g8 from by have := S1.out; omega); have k0 := A52.out.cell 0; have k1 := A52.out.cell 1; simp only [List.getElem?_toArray, List.getElem?_cons_zero, List.getElem?_cons_succ] at k0 k1; clear b hg hb)
        | (go_at_call 62; refine (HGA.out _ R2.out).mono ?_; rintro e w3 ⟨rfl, hb⟩; have A83 := Lib.hid (A8.out.below hb); have HB3 := Lib.hid (HB2.out.trans (hb.mono HB2.out.size)); clear hb k0 k1)
        | (refine Step.storeAll (vs := #[.int .u64 0, .int .u64 va, .int .i64 q, .bool false]) A83.out rfl rfl rfl rfl rfl size_place rfl rfl ?_; intro w9 nb m; have N9 := Lib.hid nb; have HB9 := Lib.hid (below_mod HB3.out HB3.out.size m (fun k hk e => by obtain rfl : k = g8 := e; exact HS8.out)); clear nb m))
      refine bodyPost_ret (results_row1 rfl _ _ g8 _ _ _ rfl N9.out hu rfl size_place) rfl ⟨by rw [E.out]; rfl, HB9.out⟩
  have d0 : (satp / 1152921504606846976 != 0) = true := by simpa using m0
  rw [if_neg m0] at FE
  by_cases m8 : satp / 1152921504606846976 ≠ 8
  · have d8 : (satp / 1152921504606846976 != 8) = true := by simpa using m8
    rw [if_pos m8] at FE
    rw [FE] at TF
    have E := Lib.hid TF
    clear TF FE m0 m8 cr HW HGX
    go_enter Tryz.func35, Tryz.ntmps35
    go_wp2_with (first
      | ((with_reducible refine Step.gate_box (t := 82) rfl ?_); refine Step.fresh (cs := #[.int .u64 satp, .int .u64 root, .bool user, .bool sum, .bool mxr]) (T := 82) rfl ?hr ?_; (case hr => first | (go_simp; done) | (go_simp; rfl)); intro q5 w1 b hg hb; have A5 := Lib.hid b; have HB1 := Lib.hid hb; have S1 := Lib.hid (show W.heap.size ≤ q5 ∧ q5 < w1.heap.size from ⟨hg, b.lt⟩); clear b hg hb)
                | (refine Step.freshAlloc rfl rfl (alloc_agg zero_place) ?_; intro g8 w2 b hg hb; have A8 := Lib.hid b; have A52 := Lib.hid (A5.out.below hb); have HB2 := Lib.hid (HB1.out.trans (hb.mono HB1.out.size)); have R2 := Lib.hid (R.out.below HB2.out); have S2 := Lib.hid (show w1.heap.size ≤ g8 ∧ g8 < w2.heap.size from ⟨hg, b.lt⟩); have HS8 := Lib.hid (show W.heap.size ≤ g8 from by have := S1.out; omega); have k0 := A52.out.cell 0; have k1 := A52.out.cell 1; simp only [List.getElem?_toArray, List.getElem?_cons_zero, List.getElem?_cons_succ] at k0 k1; clear b hg hb)
      | (refine Step.storeAll (vs := #[.int .u64 0, .int .u64 0, .int .i64 1, .bool false]) A8.out rfl rfl rfl rfl rfl size_place rfl rfl ?_; intro w9 nb m; have N9 := Lib.hid nb; have HB9 := Lib.hid (below_mod HB2.out HB2.out.size m (fun k hk e => by obtain rfl : k = g8 := e; exact HS8.out)); clear nb m))
    refine bodyPost_ret (results_row1 rfl _ _ g8 _ _ _ rfl N9.out hu rfl size_place) rfl ⟨by rw [E.out]; rfl, HB9.out⟩
  have d8 : (satp / 1152921504606846976 != 8) = false := by simpa using m8
  have d9 : (satp / 1152921504606846976 == 8) = true := by simpa using m8
  rw [if_neg m8] at FE
  cases hc : canon va with
  | false =>
    rw [hc] at cr
    simp only [Bool.not_false] at cr
    rw [if_pos hc] at FE
    rw [FE] at TF
    have E := Lib.hid TF
    clear TF FE m0 m8 HW HGX hc
    go_enter Tryz.func35, Tryz.ntmps35
    go_wp2_with (first
      | ((with_reducible refine Step.gate_box (t := 82) rfl ?_); refine Step.fresh (cs := #[.int .u64 satp, .int .u64 root, .bool user, .bool sum, .bool mxr]) (T := 82) rfl ?hr ?_; (case hr => first | (go_simp; done) | (go_simp; rfl)); intro q5 w1 b hg hb; have A5 := Lib.hid b; have HB1 := Lib.hid hb; have S1 := Lib.hid (show W.heap.size ≤ q5 ∧ q5 < w1.heap.size from ⟨hg, b.lt⟩); clear b hg hb)
                | (refine Step.freshAlloc rfl rfl (alloc_agg zero_place) ?_; intro g8 w2 b hg hb; have A8 := Lib.hid b; have A52 := Lib.hid (A5.out.below hb); have HB2 := Lib.hid (HB1.out.trans (hb.mono HB1.out.size)); have R2 := Lib.hid (R.out.below HB2.out); have S2 := Lib.hid (show w1.heap.size ≤ g8 ∧ g8 < w2.heap.size from ⟨hg, b.lt⟩); have HS8 := Lib.hid (show W.heap.size ≤ g8 from by have := S1.out; omega); have k0 := A52.out.cell 0; have k1 := A52.out.cell 1; simp only [List.getElem?_toArray, List.getElem?_cons_zero, List.getElem?_cons_succ] at k0 k1; clear b hg hb)
      | (refine Step.storeAll (vs := #[.int .u64 0, .int .u64 0, .int .i64 1, .bool false]) A8.out rfl rfl rfl rfl rfl size_place rfl rfl ?_; intro w9 nb m; have N9 := Lib.hid nb; have HB9 := Lib.hid (below_mod HB2.out HB2.out.size m (fun k hk e => by obtain rfl : k = g8 := e; exact HS8.out)); clear nb m))
    refine bodyPost_ret (results_row1 rfl _ _ g8 _ _ _ rfl N9.out hu rfl size_place) rfl ⟨by rw [E.out]; rfl, HB9.out⟩
  | true =>
    rw [hc] at cr
    simp only [Bool.not_true] at cr
    rw [if_neg (by rw [hc]; decide)] at FE
    rw [FE] at TF
    have FE2 := FE
    generalize fstOf user sum mxr va a (down (virt base n mem root) va 3 (satp % 17592186044416)) = fr at HW TF FE2
    clear FE m0 m8 hc
    cases fr with
    | page =>
      have E := Lib.hid TF
      clear TF FE2 HGX
      go_enter Tryz.func35, Tryz.ntmps35
      go_wp2_with (first
        | ((with_reducible refine Step.gate_box (t := 82) rfl ?_); refine Step.fresh (cs := #[.int .u64 satp, .int .u64 root, .bool user, .bool sum, .bool mxr]) (T := 82) rfl ?hr ?_; (case hr => first | (go_simp; done) | (go_simp; rfl)); intro q5 w1 b hg hb; have A5 := Lib.hid b; have HB1 := Lib.hid hb; have S1 := Lib.hid (show W.heap.size ≤ q5 ∧ q5 < w1.heap.size from ⟨hg, b.lt⟩); clear b hg hb)
                | (refine Step.freshAlloc rfl rfl (alloc_agg zero_place) ?_; (first
                    | (have this := Lib.hid A83; intro g11 w4 b hg hb; have A11 := Lib.hid b; have A84 := Lib.hid (A83.out.below hb); have A54 := Lib.hid (A53.out.below hb); have HB4 := Lib.hid (HB3.out.trans (hb.mono HB3.out.size)); have R4 := Lib.hid (R3.out.below hb); have NB11 := Lib.hid (show w3.heap.size ≤ g11 from hg); have S11 := Lib.hid (show W.heap.size ≤ g11 from by have := HB3.out.size; omega); have N811 := Lib.hid (show g8 ≠ g11 from by have := A83.out.lt; omega); have N511 := Lib.hid (show q5 ≠ g11 from by have := A53.out.lt; omega); clear b hg hb this)
                    | (intro g8 w2 b hg hb; have A8 := Lib.hid b; have A52 := Lib.hid (A5.out.below hb); have HB2 := Lib.hid (HB1.out.trans (hb.mono HB1.out.size)); have R2 := Lib.hid (R.out.below HB2.out); have S2 := Lib.hid (show w1.heap.size ≤ g8 ∧ g8 < w2.heap.size from ⟨hg, b.lt⟩); have HS8 := Lib.hid (show W.heap.size ≤ g8 from by have := S1.out; omega); have k0 := A52.out.cell 0; have k1 := A52.out.cell 1; simp only [List.getElem?_toArray, List.getElem?_cons_zero, List.getElem?_cons_succ] at k0 k1; clear b hg hb)))
                | (refine Step.loadAll A52.out rfl rfl rfl hu2 rfl size_env ?_)
        | (go_at_call 61; refine (HW.out _ R2.out).mono ?_; rintro e w3 ⟨rfl, hb⟩; have A83 := Lib.hid (A8.out.below hb); have A53 := Lib.hid (A52.out.below hb); have HB3 := Lib.hid (HB2.out.trans (hb.mono HB2.out.size)); have R3 := Lib.hid (R2.out.below hb); clear hb k0 k1)
        | ((first
                    | (have this := Lib.hid B11; fail)
                    | (refine Step.storeAll (vs := #[.int .u64 (0), .int .u64 (0), .int .i64 (1), .bool false]) A11.out rfl rfl rfl rfl rfl size_place rfl rfl ?_; intro w5 nb m; have B11 := Lib.hid nb; have A85 := Lib.hid (A84.out.one m N811.out); have HB5 := Lib.hid (below_mod HB4.out HB4.out.size m (fun k hk e => by obtain rfl : k = g11 := e; exact S11.out)); have R5 := Lib.hid (R4.out.mod m (fun k hk e => by obtain rfl : k = g11 := e; have := R3.out.bound k hk; have := NB11.out; omega)); have j1 := nb.cell 1; have k1 := (A54.out.one m N511.out).cell 1; simp only [List.getElem?_toArray, List.getElem?_cons_zero, List.getElem?_cons_succ] at j1 k1; clear nb m)))
                | (refine Step.loadAll B11.out rfl rfl rfl hu rfl size_place ?_)
                | (refine Step.storeAll (vs := #[.int .u64 (0), .int .u64 (0), .int .i64 (1), .bool false]) A85.out rfl rfl rfl rfl rfl size_place rfl rfl ?_; intro w9 nb m; have N9 := Lib.hid nb; have HB9 := Lib.hid (below_mod HB5.out HB5.out.size m (fun k hk e => by obtain rfl : k = g8 := e; exact HS8.out)); clear nb m))
      refine bodyPost_ret (results_row1 rfl _ _ g8 _ _ _ rfl N9.out hu rfl size_place) rfl ⟨by rw [E.out]; rfl, HB9.out⟩
    | bus f t i =>
      have E := Lib.hid TF
      clear TF FE2 HGX
      go_enter Tryz.func35, Tryz.ntmps35
      go_wp2_with (first
        | ((with_reducible refine Step.gate_box (t := 82) rfl ?_); refine Step.fresh (cs := #[.int .u64 satp, .int .u64 root, .bool user, .bool sum, .bool mxr]) (T := 82) rfl ?hr ?_; (case hr => first | (go_simp; done) | (go_simp; rfl)); intro q5 w1 b hg hb; have A5 := Lib.hid b; have HB1 := Lib.hid hb; have S1 := Lib.hid (show W.heap.size ≤ q5 ∧ q5 < w1.heap.size from ⟨hg, b.lt⟩); clear b hg hb)
                | (refine Step.freshAlloc rfl rfl (alloc_agg zero_place) ?_; (first
                    | (have this := Lib.hid A83; intro g11 w4 b hg hb; have A11 := Lib.hid b; have A84 := Lib.hid (A83.out.below hb); have A54 := Lib.hid (A53.out.below hb); have HB4 := Lib.hid (HB3.out.trans (hb.mono HB3.out.size)); have R4 := Lib.hid (R3.out.below hb); have NB11 := Lib.hid (show w3.heap.size ≤ g11 from hg); have S11 := Lib.hid (show W.heap.size ≤ g11 from by have := HB3.out.size; omega); have N811 := Lib.hid (show g8 ≠ g11 from by have := A83.out.lt; omega); have N511 := Lib.hid (show q5 ≠ g11 from by have := A53.out.lt; omega); clear b hg hb this)
                    | (intro g8 w2 b hg hb; have A8 := Lib.hid b; have A52 := Lib.hid (A5.out.below hb); have HB2 := Lib.hid (HB1.out.trans (hb.mono HB1.out.size)); have R2 := Lib.hid (R.out.below HB2.out); have S2 := Lib.hid (show w1.heap.size ≤ g8 ∧ g8 < w2.heap.size from ⟨hg, b.lt⟩); have HS8 := Lib.hid (show W.heap.size ≤ g8 from by have := S1.out; omega); have k0 := A52.out.cell 0; have k1 := A52.out.cell 1; simp only [List.getElem?_toArray, List.getElem?_cons_zero, List.getElem?_cons_succ] at k0 k1; clear b hg hb)))
                | (refine Step.loadAll A52.out rfl rfl rfl hu2 rfl size_env ?_)
        | (go_at_call 61; refine (HW.out _ R2.out).mono ?_; rintro e w3 ⟨rfl, hb⟩; have A83 := Lib.hid (A8.out.below hb); have A53 := Lib.hid (A52.out.below hb); have HB3 := Lib.hid (HB2.out.trans (hb.mono HB2.out.size)); have R3 := Lib.hid (R2.out.below hb); clear hb k0 k1)
        | ((first
                    | (have this := Lib.hid B11; fail)
                    | (refine Step.storeAll (vs := #[.int .u64 (0), .int .u64 (t * 4096 + 8 * i), .int .i64 (f), .bool true]) A11.out rfl rfl rfl rfl rfl size_place rfl rfl ?_; intro w5 nb m; have B11 := Lib.hid nb; have A85 := Lib.hid (A84.out.one m N811.out); have HB5 := Lib.hid (below_mod HB4.out HB4.out.size m (fun k hk e => by obtain rfl : k = g11 := e; exact S11.out)); have R5 := Lib.hid (R4.out.mod m (fun k hk e => by obtain rfl : k = g11 := e; have := R3.out.bound k hk; have := NB11.out; omega)); have j1 := nb.cell 1; have k1 := (A54.out.one m N511.out).cell 1; simp only [List.getElem?_toArray, List.getElem?_cons_zero, List.getElem?_cons_succ] at j1 k1; clear nb m)))
                | (refine Step.loadAll B11.out rfl rfl rfl hu rfl size_place ?_)
                | (refine Step.storeAll (vs := #[.int .u64 (0), .int .u64 (t * 4096 + 8 * i), .int .i64 (f), .bool true]) A85.out rfl rfl rfl rfl rfl size_place rfl rfl ?_; intro w9 nb m; have N9 := Lib.hid nb; have HB9 := Lib.hid (below_mod HB5.out HB5.out.size m (fun k hk e => by obtain rfl : k = g8 := e; exact HS8.out)); clear nb m))
      refine bodyPost_ret (results_row1 rfl _ _ g8 _ _ _ rfl N9.out hu rfl size_place) rfl ⟨by rw [E.out]; rfl, HB9.out⟩
    | ok ga =>
      have HGV := Lib.hid (HGX.out ga FE2)
      have TF2 : translate base n mem satp root user sum mxr va a = (if (guest base n mem root ga a).2.2 ≠ 0 then ⟨0, ga, (guest base n mem root ga a).2.2, false⟩ else ⟨(guest base n mem root ga a).1, ga, 0, false⟩) := TF
      have HGA := Lib.hid (fun w (v : Ref.Mem w h base n mem F) => rguest_any v root ga a HR.out HGV.out)
      clear TF FE2 HGX
      generalize guest base n mem root ga a = G at TF2 HGA
      obtain ⟨x, pm, q⟩ := G
      simp only at TF2 HGA
      by_cases hq : q = 0
      · subst hq
        rw [if_neg (fun h => h rfl)] at TF2
        have E := Lib.hid TF2
        clear TF2
        go_enter Tryz.func35, Tryz.ntmps35
        go_wp2_with (first
          | ((with_reducible refine Step.gate_box (t := 82) rfl ?_); refine Step.fresh (cs := #[.int .u64 satp, .int .u64 root, .bool user, .bool sum, .bool mxr]) (T := 82) rfl ?hr ?_; (case hr => first | (go_simp; done) | (go_simp; rfl)); intro q5 w1 b hg hb; have A5 := Lib.hid b; have HB1 := Lib.hid hb; have S1 := Lib.hid (show W.heap.size ≤ q5 ∧ q5 < w1.heap.size from ⟨hg, b.lt⟩); clear b hg hb)
                | (refine Step.freshAlloc rfl rfl (alloc_agg zero_place) ?_; (first
                    | (have this := Lib.hid A83; intro g11 w4 b hg hb; have A11 := Lib.hid b; have A84 := Lib.hid (A83.out.below hb); have A54 := Lib.hid (A53.out.below hb); have HB4 := Lib.hid (HB3.out.trans (hb.mono HB3.out.size)); have R4 := Lib.hid (R3.out.below hb); have NB11 := Lib.hid (show w3.heap.size ≤ g11 from hg); have S11 := Lib.hid (show W.heap.size ≤ g11 from by have := HB3.out.size; omega); have N811 := Lib.hid (show g8 ≠ g11 from by have := A83.out.lt; omega); have N511 := Lib.hid (show q5 ≠ g11 from by have := A53.out.lt; omega); clear b hg hb this)
                    | (intro g8 w2 b hg hb; have A8 := Lib.hid b; have A52 := Lib.hid (A5.out.below hb); have HB2 := Lib.hid (HB1.out.trans (hb.mono HB1.out.size)); have R2 := Lib.hid (R.out.below HB2.out); have S2 := Lib.hid (show w1.heap.size ≤ g8 ∧ g8 < w2.heap.size from ⟨hg, b.lt⟩); have HS8 := Lib.hid (show W.heap.size ≤ g8 from by have := S1.out; omega); have k0 := A52.out.cell 0; have k1 := A52.out.cell 1; simp only [List.getElem?_toArray, List.getElem?_cons_zero, List.getElem?_cons_succ] at k0 k1; clear b hg hb)))
                | (refine Step.loadAll A52.out rfl rfl rfl hu2 rfl size_env ?_)
          | (go_at_call 61; refine (HW.out _ R2.out).mono ?_; rintro e w3 ⟨rfl, hb⟩; have A83 := Lib.hid (A8.out.below hb); have A53 := Lib.hid (A52.out.below hb); have HB3 := Lib.hid (HB2.out.trans (hb.mono HB2.out.size)); have R3 := Lib.hid (R2.out.below hb); clear hb k0 k1)
          | ((first
                    | (have this := Lib.hid B11; fail)
                    | (refine Step.storeAll (vs := #[.int .u64 (0), .int .u64 (ga), .int .i64 (0), .bool false]) A11.out rfl rfl rfl rfl rfl size_place rfl rfl ?_; intro w5 nb m; have B11 := Lib.hid nb; have A85 := Lib.hid (A84.out.one m N811.out); have HB5 := Lib.hid (below_mod HB4.out HB4.out.size m (fun k hk e => by obtain rfl : k = g11 := e; exact S11.out)); have R5 := Lib.hid (R4.out.mod m (fun k hk e => by obtain rfl : k = g11 := e; have := R3.out.bound k hk; have := NB11.out; omega)); have j1 := nb.cell 1; have k1 := (A54.out.one m N511.out).cell 1; simp only [List.getElem?_toArray, List.getElem?_cons_zero, List.getElem?_cons_succ] at j1 k1; clear nb m)))
                | (refine Step.loadAll B11.out rfl rfl rfl hu rfl size_place ?_)
                | (refine Step.storeAll (vs := #[.int .u64 (0), .int .u64 (ga), .int .i64 (0), .bool false]) A85.out rfl rfl rfl rfl rfl size_place rfl rfl ?_; intro w9 nb m; have N9 := Lib.hid nb; have HB9 := Lib.hid (below_mod HB5.out HB5.out.size m (fun k hk e => by obtain rfl : k = g8 := e; exact HS8.out)); clear nb m)
          | (go_at_call 62; refine (HGA.out _ R5.out).mono ?_; rintro e w6 ⟨rfl, hb⟩; have A86 := Lib.hid (A85.out.below hb); have HB6 := Lib.hid (HB5.out.trans (hb.mono HB5.out.size)); clear hb j1 k1)
          | (refine Step.storeAll (vs := #[.int .u64 x, .int .u64 ga, .int .i64 0, .bool false]) A86.out rfl rfl rfl rfl rfl size_place rfl rfl ?_; intro w9 nb m; have N9 := Lib.hid nb; have HB9 := Lib.hid (below_mod HB6.out HB6.out.size m (fun k hk e => by obtain rfl : k = g8 := e; exact HS8.out)); clear nb m))
        refine bodyPost_ret (results_row1 rfl _ _ g8 _ _ _ rfl N9.out hu rfl size_place) rfl ⟨by rw [E.out]; rfl, HB9.out⟩
      · rw [if_pos hq] at TF2
        have E := Lib.hid TF2
        have dq : (q != 0) = true := by simpa using hq
        clear TF2 hq
        go_enter Tryz.func35, Tryz.ntmps35
        go_wp2_with (first
          | ((with_reducible refine Step.gate_box (t := 82) rfl ?_); refine Step.fresh (cs := #[.int .u64 satp, .int .u64 root, .bool user, .bool sum, .bool mxr]) (T := 82) rfl ?hr ?_; (case hr => first | (go_simp; done) | (go_simp; rfl)); intro q5 w1 b hg hb; have A5 := Lib.hid b; have HB1 := Lib.hid hb; have S1 := Lib.hid (show W.heap.size ≤ q5 ∧ q5 < w1.heap.size from ⟨hg, b.lt⟩); clear b hg hb)
                | (refine Step.freshAlloc rfl rfl (alloc_agg zero_place) ?_; (first
                    | (have this := Lib.hid A83; intro g11 w4 b hg hb; have A11 := Lib.hid b; have A84 := Lib.hid (A83.out.below hb); have A54 := Lib.hid (A53.out.below hb); have HB4 := Lib.hid (HB3.out.trans (hb.mono HB3.out.size)); have R4 := Lib.hid (R3.out.below hb); have NB11 := Lib.hid (show w3.heap.size ≤ g11 from hg); have S11 := Lib.hid (show W.heap.size ≤ g11 from by have := HB3.out.size; omega); have N811 := Lib.hid (show g8 ≠ g11 from by have := A83.out.lt; omega); have N511 := Lib.hid (show q5 ≠ g11 from by have := A53.out.lt; omega); clear b hg hb this)
                    | (intro g8 w2 b hg hb; have A8 := Lib.hid b; have A52 := Lib.hid (A5.out.below hb); have HB2 := Lib.hid (HB1.out.trans (hb.mono HB1.out.size)); have R2 := Lib.hid (R.out.below HB2.out); have S2 := Lib.hid (show w1.heap.size ≤ g8 ∧ g8 < w2.heap.size from ⟨hg, b.lt⟩); have HS8 := Lib.hid (show W.heap.size ≤ g8 from by have := S1.out; omega); have k0 := A52.out.cell 0; have k1 := A52.out.cell 1; simp only [List.getElem?_toArray, List.getElem?_cons_zero, List.getElem?_cons_succ] at k0 k1; clear b hg hb)))
                | (refine Step.loadAll A52.out rfl rfl rfl hu2 rfl size_env ?_)
          | (go_at_call 61; refine (HW.out _ R2.out).mono ?_; rintro e w3 ⟨rfl, hb⟩; have A83 := Lib.hid (A8.out.below hb); have A53 := Lib.hid (A52.out.below hb); have HB3 := Lib.hid (HB2.out.trans (hb.mono HB2.out.size)); have R3 := Lib.hid (R2.out.below hb); clear hb k0 k1)
          | ((first
                    | (have this := Lib.hid B11; fail)
                    | (refine Step.storeAll (vs := #[.int .u64 (0), .int .u64 (ga), .int .i64 (0), .bool false]) A11.out rfl rfl rfl rfl rfl size_place rfl rfl ?_; intro w5 nb m; have B11 := Lib.hid nb; have A85 := Lib.hid (A84.out.one m N811.out); have HB5 := Lib.hid (below_mod HB4.out HB4.out.size m (fun k hk e => by obtain rfl : k = g11 := e; exact S11.out)); have R5 := Lib.hid (R4.out.mod m (fun k hk e => by obtain rfl : k = g11 := e; have := R3.out.bound k hk; have := NB11.out; omega)); have j1 := nb.cell 1; have k1 := (A54.out.one m N511.out).cell 1; simp only [List.getElem?_toArray, List.getElem?_cons_zero, List.getElem?_cons_succ] at j1 k1; clear nb m)))
                | (refine Step.loadAll B11.out rfl rfl rfl hu rfl size_place ?_)
                | (refine Step.storeAll (vs := #[.int .u64 (0), .int .u64 (ga), .int .i64 (0), .bool false]) A85.out rfl rfl rfl rfl rfl size_place rfl rfl ?_; intro w9 nb m; have N9 := Lib.hid nb; have HB9 := Lib.hid (below_mod HB5.out HB5.out.size m (fun k hk e => by obtain rfl : k = g8 := e; exact HS8.out)); clear nb m)
          | (go_at_call 62; refine (HGA.out _ R5.out).mono ?_; rintro e w6 ⟨rfl, hb⟩; have A86 := Lib.hid (A85.out.below hb); have HB6 := Lib.hid (HB5.out.trans (hb.mono HB5.out.size)); clear hb j1 k1)
          | (refine Step.storeAll (vs := #[.int .u64 0, .int .u64 ga, .int .i64 q, .bool false]) A86.out rfl rfl rfl rfl rfl size_place rfl rfl ?_; intro w9 nb m; have N9 := Lib.hid nb; have HB9 := Lib.hid (below_mod HB6.out HB6.out.size m (fun k hk e => by obtain rfl : k = g8 := e; exact HS8.out)); clear nb m))
        refine bodyPost_ret (results_row1 rfl _ _ g8 _ _ _ rfl N9.out hu rfl size_place) rfl ⟨by rw [E.out]; rfl, HB9.out⟩
end Go.Proofs.YtchpnbckgofiaaaGreat.Tab
end
