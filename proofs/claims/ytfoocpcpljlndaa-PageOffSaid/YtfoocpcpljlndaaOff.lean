/- The walk of PageOff (written by genoff.py). -/
import Derived.Test.YtfoocpcpljlndaaAwakeB
import Derived.Test.YtfoocpcpljlndaaTranslate
namespace Go.Proofs.Ytfoocpcpljlndaa.Duo
open Go Go.RowKit Go.Proofs.Ytfoocpcpljlndaa.Step Go.Proofs.Ytfoocpcpljlndaa.Mem Go.Proofs.Ytfoocpcpljlndaa.Tab
set_option linter.unusedVariables false
set_option linter.unusedSimpArgs false
set_option maxRecDepth 100000

theorem size_env5 : (Try.prog.info? 25).map (·.size) = some 5 := by kernel_rfl
theorem zero_env : (Try.prog.info? 25).bind (·.zero) = some (.agg #[.int .u64 0, .int .u64 0, .bool false, .bool false, .bool false]) := by kernel_rfl
theorem pl_u64' : Step.plainT Try.prog 23 = true := by kernel_rfl
theorem translate_is {W : World} {h n : Nat} {base : Int} {mem : Nat → Int} {F : Nat → Prop} (r : Ram W h base n mem F) (satp root va a : Int) (user sum mxr : Bool) (hs : U64 satp) (hr : U64 root) (hv : U64 va) {p : Tab.Place} (e : translate base n mem satp root user sum mxr va a = p) :
    Calls Try.prog 18 #[.pointer (some ⟨h, 0, none⟩), .agg #[.int .u64 satp, .int .u64 root, .bool user, .bool sum, .bool mxr], .int .u64 va, .int .i64 a] W fun e W' => e = .returned (.agg #[.int .u64 p.pa, .int .u64 p.gpa, .int .i64 p.fault, .bool p.walk]) ∧ Below W.heap.size W W' :=
  e ▸ translate_any r satp root va a user sum mxr hs hr hv
/-- With the second stage off. -/
theorem off_second (mem : Nat → Int) (satp va a : Int) (user sum mxr : Bool) : (translate 0 8 mem satp 0 user sum mxr va a).fault ≠ 0 ∨ (translate 0 8 mem satp 0 user sum mxr va a).pa = (translate 0 8 mem satp 0 user sum mxr va a).gpa := by
  rw [translate_fst]
  cases h : fst (virt 0 8 mem 0) satp user sum mxr va a with
  | ok g => exact .inr rfl
  | page => exact .inl (by show (1 : Int) ≠ 0; decide)
  | bus f t i => exact .inl (fst_bus h).2.2.2
theorem off_both (mem : Nat → Int) (satp va a : Int) (user sum mxr : Bool) (h : 0 ≤ satp ∧ satp < 1152921504606846976) : translate 0 8 mem satp 0 user sum mxr va a = ⟨va, va, 0, false⟩ := by
  rw [translate_fst, show fst (virt 0 8 mem 0) satp user sum mxr va a = .ok va from if_pos (by omega)]
  rfl

set_option maxHeartbeats 8000000 in
theorem off_f (A : Option Addr) (len cap : Nat) (f : Nat → Int × Int) (satp root : Int) (user sum mxr : Bool) (va a : Int) (W : World) (r : RdC W A len f (· < W.heap.size)) (hl : len ≤ 9223372036854775807) (hs : U64 satp) (hr : U64 root) (hv : U64 va) (hf : (translate 0 8 (cm 8 f len) satp 0 user sum mxr va a).fault ≠ 0) :
    Calls Try.prog 7 #[.agg (caseV A len cap satp root user sum mxr), .int .u64 va, .int .i64 a] W fun e w' => e = .returned (.bool true) ∧ Below W.heap.size W w' := by
  have R := Lib.hid r
  have HL := Lib.hid hl
  have HS := Lib.hid hs
  have df : ((translate 0 8 (cm 8 f len) satp 0 user sum mxr va a).fault == 0) = false := by simpa using hf
  have mm : 0 ≤ satp.tmod 1152921504606846976 ∧ satp.tmod 1152921504606846976 < 1152921504606846976 := by rw [Int.tmod_eq_emod_of_nonneg hs.1]; omega
  have E2 := Lib.hid (off_both (cm 8 f len) (satp.tmod 1152921504606846976) va a user sum mxr mm)
  have HM2 := Lib.hid (show U64 (satp.tmod 1152921504606846976) from ⟨mm.1, Int.lt_trans mm.2 (by decide)⟩)
  have T1 := Lib.hid (fun (W : World) (h : Nat) (F : Nat → Prop) (r : Ram W h 0 8 (cm 8 f len) F) => translate_is r satp 0 va a user sum mxr hs ⟨by decide, by decide⟩ hv rfl)
  have T2 := Lib.hid (fun (W : World) (h : Nat) (F : Nat → Prop) (r : Ram W h 0 8 (cm 8 f len) F) => translate_is r (satp.tmod 1152921504606846976) 0 va a user sum mxr HM2.out ⟨by decide, by decide⟩ hv E2.out)
  generalize translate 0 8 (cm 8 f len) satp 0 user sum mxr va a = p at *
  obtain ⟨pa, gp, fa, wa⟩ := p
  simp only at df T1 T2
  have AW := Lib.hid awake_any
  have hu := Try.underlying31
  have hu2 := Try.underlying27
  have hu3 := Try.underlying25
  have hu4 := Try.underlying47
  clear r hl hs hr hv mm hf
  unfold caseV
  go_enter Try.func7, Try.ntmps7
  go_wp2_with (first
    | ((with_reducible refine Step.gate_box (t := 27) rfl ?_); refine Step.fresh (cs := #[.slice A len cap, .int .u64 satp, .int .u64 root, .bool user, .bool sum, .bool mxr]) (T := 27) rfl ?hr ?_; (case hr => first | (go_simp; done) | (go_simp; rfl)); intro g1 w1 b hg hb; have B1 := Lib.hid b; have HB1 := Lib.hid hb; clear b hg hb)
    | ((with_reducible refine Step.gate_load (t := 27) rfl ?_); refine Step.loadAll B1.out rfl rfl rfl hu2 rfl size_case ?_)
    | (go_at_call 11; refine (case_any _ A len cap f satp root user sum mxr ((R.out.mod (Mod.of_below HB1.out Nil) (fun k hk h => h) (fun k hk => hk)).wide (fun k hk => Nat.lt_of_lt_of_le hk HB1.out.size)) HL.out).mono ?_; rintro e w3 ⟨h1, h2, F1, F2, rfl, d⟩; have D := Lib.hid d; have B13 := Lib.hid (B1.out.mod d.mod (fun h => h)); clear d)
    | ((with_reducible refine Step.gate_alloc (t := 31) rfl ?_); refine Step.freshAlloc rfl rfl (alloc_agg zero_two) ?_; intro g2 w4 b hg hb; have B2 := Lib.hid b; have D2 := Lib.hid (D.out.below hb); have B14 := Lib.hid (B13.out.below hb); have HG2 := Lib.hid (show ∀ k, F1 k ∨ F2 k → k ≠ g2 from fun k h e => by subst e; have := D.out.bound k h; omega); have HN2 := Lib.hid (show w1.heap.size ≤ g2 from Nat.le_trans D.out.mod.size hg); have NE := Lib.hid (show g1 ≠ g2 from by have := B13.out.lt; omega); clear b hg hb)
    | ((with_reducible refine Step.gate_store (t := 31) rfl ?_); refine Step.storeAll (vs := #[.pointer (some ⟨h1, 0, none⟩), .pointer (some ⟨h2, 0, none⟩)]) B2.out rfl rfl rfl rfl rfl size_two rfl rfl ?_; intro w5 nb m; have N2 := Lib.hid nb; have N1 := Lib.hid (B14.out.one m NE.out); have c0 := nb.cell 0; have k1 := N1.out.cell 1; have k2 := N1.out.cell 2; have k3 := N1.out.cell 3; have k4 := N1.out.cell 4; have k5 := N1.out.cell 5; have D3 := Lib.hid (D2.out.other m (fun k h e => HG2.out k h e) (fun k e => by obtain rfl : k = g2 := e; exact HN2.out)); simp only [List.getElem?_toArray, List.getElem?_cons_zero, List.getElem?_cons_succ] at c0 k1 k2 k3 k4 k5; clear nb m)
    | ((with_reducible refine Step.gate_alloc (t := 25) rfl ?_); refine Step.freshAlloc rfl rfl (alloc_agg zero_env) ?_; intro g9 w6 b hg hb; have E9 := Lib.hid b; have D6 := Lib.hid (D3.out.below hb); have N26 := Lib.hid (N2.out.below hb); have HG9 := Lib.hid (show ∀ k, F1 k ∨ F2 k → k ≠ g9 from fun k h e => by subst e; have := D3.out.bound k h; omega); have HN9 := Lib.hid (show w1.heap.size ≤ g9 from by have := D3.out.mod.size; omega); have NE9 := Lib.hid (show g2 ≠ g9 from by have := N2.out.lt; omega); clear b hg hb k1 k2 k3 k4 k5)
    | ((with_reducible refine Step.gate_store (t := 25) rfl ?_); refine Step.storeAll (vs := #[.int .u64 satp, .int .u64 root, .bool user, .bool sum, .bool mxr]) E9.out rfl rfl rfl rfl rfl size_env5 rfl rfl ?_; intro w7 nb m; have E97 := Lib.hid nb; have D7 := Lib.hid (D6.out.other m (fun k h e => HG9.out k h e) (fun k e => by obtain rfl : k = g9 := e; exact HN9.out)); have N27 := Lib.hid (N26.out.one m NE9.out); clear nb m c0)
    | ((with_reducible refine Step.gate_store (t := 23) rfl ?_); (first
        | (have this := Lib.hid P10; refine Step.store E9b.out rfl rfl rfl rfl rfl pl_u64' rfl rfl ?_; intro w12 nb m; have E9c := Lib.hid (show Blk w12 g9 #[.int .u64 (satp.tmod 1152921504606846976), .int .u64 0, .bool user, .bool sum, .bool mxr] 25 from nb); have D12 := Lib.hid (D11.out.other m (fun k h e => HG9.out k h e) (fun k e => by obtain rfl : k = g9 := e; exact HN9.out)); have N212 := Lib.hid (N211.out.one m NE9.out); have P12 := Lib.hid (P11.out.one m NE10.out.symm); have c12 := (N211.out.one m NE9.out).cell 0; simp only [List.getElem?_toArray, List.getElem?_cons_zero] at c12; clear nb m this d0)
        | (refine Step.store E97.out rfl rfl rfl rfl rfl pl_u64' rfl rfl ?_; intro w8 nb m; have E98 := Lib.hid (show Blk w8 g9 #[.int .u64 satp, .int .u64 0, .bool user, .bool sum, .bool mxr] 25 from nb); have D8 := Lib.hid (D7.out.other m (fun k h e => HG9.out k h e) (fun k e => by obtain rfl : k = g9 := e; exact HN9.out)); have N28 := Lib.hid (N27.out.one m NE9.out); have c8 := (N27.out.one m NE9.out).cell 0; simp only [List.getElem?_toArray, List.getElem?_cons_zero] at c8; clear nb m)))
    | ((with_reducible refine Step.gate_load (t := 25) rfl ?_); (first
        | (have this := Lib.hid E9c; refine Step.loadAll E9c.out rfl rfl rfl hu3 rfl size_env5 ?_; clear this)
        | (refine Step.loadAll E98.out rfl rfl rfl hu3 rfl size_env5 ?_)))
    | (go_at_call 18; (first
        | (have this := Lib.hid E9c; (with_reducible refine (T2.out _ _ _ D12.out.one).mono ?_); rintro e w13 ⟨rfl, hb⟩; have D13 := Lib.hid (D12.out.below hb); have P13 := Lib.hid (P12.out.below hb); clear hb this c12)
        | ((with_reducible refine (T1.out _ _ _ D8.out.one).mono ?_); rintro e w9 ⟨rfl, hb⟩; have D9 := Lib.hid (D8.out.below hb); have E99 := Lib.hid (E98.out.below hb); have N29 := Lib.hid (N28.out.below hb); clear hb c8)))
    | ((with_reducible refine Step.gate_alloc (t := 47) rfl ?_); refine Step.freshAlloc rfl rfl (alloc_agg zero_place) ?_; intro g10 w10 b hg hb; have P10 := Lib.hid b; have D10 := Lib.hid (D9.out.below hb); have E9a := Lib.hid (E99.out.below hb); have N210 := Lib.hid (N29.out.below hb); have HG10 := Lib.hid (show ∀ k, F1 k ∨ F2 k → k ≠ g10 from fun k h e => by subst e; have := D9.out.bound k h; omega); have HN10 := Lib.hid (show w1.heap.size ≤ g10 from by have := D9.out.mod.size; omega); have NE10 := Lib.hid (show g9 ≠ g10 from by have := E99.out.lt; omega); have NE210 := Lib.hid (show g2 ≠ g10 from by have := N29.out.lt; omega); clear b hg hb)
    | ((with_reducible refine Step.gate_store (t := 47) rfl ?_); (first
        | (have this := Lib.hid P13; refine Step.storeAll (vs := #[.int .u64 va, .int .u64 va, .int .i64 0, .bool false]) P13.out rfl rfl rfl rfl rfl size_place rfl rfl ?_; intro w14 nb m; have P14 := Lib.hid nb; have D14 := Lib.hid (D13.out.other m (fun k h e => HG10.out k h e) (fun k e => by obtain rfl : k = g10 := e; exact HN10.out)); clear nb m this)
        | (refine Step.storeAll (vs := #[.int .u64 pa, .int .u64 gp, .int .i64 fa, .bool wa]) P10.out rfl rfl rfl rfl rfl size_place rfl rfl ?_; intro w11 nb m; have P11 := Lib.hid nb; have D11 := Lib.hid (D10.out.other m (fun k h e => HG10.out k h e) (fun k e => by obtain rfl : k = g10 := e; exact HN10.out)); have E9b := Lib.hid (E9a.out.one m NE10.out); have N211 := Lib.hid (N210.out.one m NE210.out); have d0 := (E9a.out.one m NE10.out).cell 0; have p0 := nb.cell 0; have p1 := nb.cell 1; have p2 := nb.cell 2; simp only [List.getElem?_toArray, List.getElem?_cons_zero, List.getElem?_cons_succ] at d0 p0 p1 p2; clear nb m)))
    | ((with_reducible refine Step.gate_load (t := 47) rfl ?_); refine Step.loadAll P14.out rfl rfl rfl hu4 rfl size_place ?_)
    | (go_at_call 13; refine (AW.out _).mono ?_; rintro e w15 ⟨rfl, hb⟩; have D15 := Lib.hid (D14.out.below hb); clear hb))
  go_ret
  exact ⟨rfl, HB1.out.trans (D15.out.out.mono HB1.out.size)⟩

set_option maxHeartbeats 8000000 in
theorem off_n (A : Option Addr) (len cap : Nat) (f : Nat → Int × Int) (satp root : Int) (user sum mxr : Bool) (va a : Int) (W : World) (r : RdC W A len f (· < W.heap.size)) (hl : len ≤ 9223372036854775807) (hs : U64 satp) (hr : U64 root) (hv : U64 va) (hf : (translate 0 8 (cm 8 f len) satp 0 user sum mxr va a).fault = 0) (he : (translate 0 8 (cm 8 f len) satp 0 user sum mxr va a).pa = (translate 0 8 (cm 8 f len) satp 0 user sum mxr va a).gpa) :
    Calls Try.prog 7 #[.agg (caseV A len cap satp root user sum mxr), .int .u64 va, .int .i64 a] W fun e w' => e = .returned (.bool true) ∧ Below W.heap.size W w' := by
  have R := Lib.hid r
  have HL := Lib.hid hl
  have HS := Lib.hid hs
  have df : ((translate 0 8 (cm 8 f len) satp 0 user sum mxr va a).fault == 0) = true := by simpa using hf
  have de : ((translate 0 8 (cm 8 f len) satp 0 user sum mxr va a).pa != (translate 0 8 (cm 8 f len) satp 0 user sum mxr va a).gpa) = false := by simpa using he
  have mm : 0 ≤ satp.tmod 1152921504606846976 ∧ satp.tmod 1152921504606846976 < 1152921504606846976 := by rw [Int.tmod_eq_emod_of_nonneg hs.1]; omega
  have E2 := Lib.hid (off_both (cm 8 f len) (satp.tmod 1152921504606846976) va a user sum mxr mm)
  have HM2 := Lib.hid (show U64 (satp.tmod 1152921504606846976) from ⟨mm.1, Int.lt_trans mm.2 (by decide)⟩)
  have T1 := Lib.hid (fun (W : World) (h : Nat) (F : Nat → Prop) (r : Ram W h 0 8 (cm 8 f len) F) => translate_is r satp 0 va a user sum mxr hs ⟨by decide, by decide⟩ hv rfl)
  have T2 := Lib.hid (fun (W : World) (h : Nat) (F : Nat → Prop) (r : Ram W h 0 8 (cm 8 f len) F) => translate_is r (satp.tmod 1152921504606846976) 0 va a user sum mxr HM2.out ⟨by decide, by decide⟩ hv E2.out)
  generalize translate 0 8 (cm 8 f len) satp 0 user sum mxr va a = p at *
  obtain ⟨pa, gp, fa, wa⟩ := p
  simp only at df de T1 T2
  have AW := Lib.hid awake_any
  have hu := Try.underlying31
  have hu2 := Try.underlying27
  have hu3 := Try.underlying25
  have hu4 := Try.underlying47
  clear r hl hs hr hv mm hf he
  unfold caseV
  go_enter Try.func7, Try.ntmps7
  go_wp2_with (first
    | ((with_reducible refine Step.gate_box (t := 27) rfl ?_); refine Step.fresh (cs := #[.slice A len cap, .int .u64 satp, .int .u64 root, .bool user, .bool sum, .bool mxr]) (T := 27) rfl ?hr ?_; (case hr => first | (go_simp; done) | (go_simp; rfl)); intro g1 w1 b hg hb; have B1 := Lib.hid b; have HB1 := Lib.hid hb; clear b hg hb)
    | ((with_reducible refine Step.gate_load (t := 27) rfl ?_); refine Step.loadAll B1.out rfl rfl rfl hu2 rfl size_case ?_)
    | (go_at_call 11; refine (case_any _ A len cap f satp root user sum mxr ((R.out.mod (Mod.of_below HB1.out Nil) (fun k hk h => h) (fun k hk => hk)).wide (fun k hk => Nat.lt_of_lt_of_le hk HB1.out.size)) HL.out).mono ?_; rintro e w3 ⟨h1, h2, F1, F2, rfl, d⟩; have D := Lib.hid d; have B13 := Lib.hid (B1.out.mod d.mod (fun h => h)); clear d)
    | ((with_reducible refine Step.gate_alloc (t := 31) rfl ?_); refine Step.freshAlloc rfl rfl (alloc_agg zero_two) ?_; intro g2 w4 b hg hb; have B2 := Lib.hid b; have D2 := Lib.hid (D.out.below hb); have B14 := Lib.hid (B13.out.below hb); have HG2 := Lib.hid (show ∀ k, F1 k ∨ F2 k → k ≠ g2 from fun k h e => by subst e; have := D.out.bound k h; omega); have HN2 := Lib.hid (show w1.heap.size ≤ g2 from Nat.le_trans D.out.mod.size hg); have NE := Lib.hid (show g1 ≠ g2 from by have := B13.out.lt; omega); clear b hg hb)
    | ((with_reducible refine Step.gate_store (t := 31) rfl ?_); refine Step.storeAll (vs := #[.pointer (some ⟨h1, 0, none⟩), .pointer (some ⟨h2, 0, none⟩)]) B2.out rfl rfl rfl rfl rfl size_two rfl rfl ?_; intro w5 nb m; have N2 := Lib.hid nb; have N1 := Lib.hid (B14.out.one m NE.out); have c0 := nb.cell 0; have k1 := N1.out.cell 1; have k2 := N1.out.cell 2; have k3 := N1.out.cell 3; have k4 := N1.out.cell 4; have k5 := N1.out.cell 5; have D3 := Lib.hid (D2.out.other m (fun k h e => HG2.out k h e) (fun k e => by obtain rfl : k = g2 := e; exact HN2.out)); simp only [List.getElem?_toArray, List.getElem?_cons_zero, List.getElem?_cons_succ] at c0 k1 k2 k3 k4 k5; clear nb m)
    | ((with_reducible refine Step.gate_alloc (t := 25) rfl ?_); refine Step.freshAlloc rfl rfl (alloc_agg zero_env) ?_; intro g9 w6 b hg hb; have E9 := Lib.hid b; have D6 := Lib.hid (D3.out.below hb); have N26 := Lib.hid (N2.out.below hb); have HG9 := Lib.hid (show ∀ k, F1 k ∨ F2 k → k ≠ g9 from fun k h e => by subst e; have := D3.out.bound k h; omega); have HN9 := Lib.hid (show w1.heap.size ≤ g9 from by have := D3.out.mod.size; omega); have NE9 := Lib.hid (show g2 ≠ g9 from by have := N2.out.lt; omega); clear b hg hb k1 k2 k3 k4 k5)
    | ((with_reducible refine Step.gate_store (t := 25) rfl ?_); refine Step.storeAll (vs := #[.int .u64 satp, .int .u64 root, .bool user, .bool sum, .bool mxr]) E9.out rfl rfl rfl rfl rfl size_env5 rfl rfl ?_; intro w7 nb m; have E97 := Lib.hid nb; have D7 := Lib.hid (D6.out.other m (fun k h e => HG9.out k h e) (fun k e => by obtain rfl : k = g9 := e; exact HN9.out)); have N27 := Lib.hid (N26.out.one m NE9.out); clear nb m c0)
    | ((with_reducible refine Step.gate_store (t := 23) rfl ?_); (first
        | (have this := Lib.hid P10; refine Step.store E9b.out rfl rfl rfl rfl rfl pl_u64' rfl rfl ?_; intro w12 nb m; have E9c := Lib.hid (show Blk w12 g9 #[.int .u64 (satp.tmod 1152921504606846976), .int .u64 0, .bool user, .bool sum, .bool mxr] 25 from nb); have D12 := Lib.hid (D11.out.other m (fun k h e => HG9.out k h e) (fun k e => by obtain rfl : k = g9 := e; exact HN9.out)); have N212 := Lib.hid (N211.out.one m NE9.out); have P12 := Lib.hid (P11.out.one m NE10.out.symm); have c12 := (N211.out.one m NE9.out).cell 0; simp only [List.getElem?_toArray, List.getElem?_cons_zero] at c12; clear nb m this d0)
        | (refine Step.store E97.out rfl rfl rfl rfl rfl pl_u64' rfl rfl ?_; intro w8 nb m; have E98 := Lib.hid (show Blk w8 g9 #[.int .u64 satp, .int .u64 0, .bool user, .bool sum, .bool mxr] 25 from nb); have D8 := Lib.hid (D7.out.other m (fun k h e => HG9.out k h e) (fun k e => by obtain rfl : k = g9 := e; exact HN9.out)); have N28 := Lib.hid (N27.out.one m NE9.out); have c8 := (N27.out.one m NE9.out).cell 0; simp only [List.getElem?_toArray, List.getElem?_cons_zero] at c8; clear nb m)))
    | ((with_reducible refine Step.gate_load (t := 25) rfl ?_); (first
        | (have this := Lib.hid E9c; refine Step.loadAll E9c.out rfl rfl rfl hu3 rfl size_env5 ?_; clear this)
        | (refine Step.loadAll E98.out rfl rfl rfl hu3 rfl size_env5 ?_)))
    | (go_at_call 18; (first
        | (have this := Lib.hid E9c; (with_reducible refine (T2.out _ _ _ D12.out.one).mono ?_); rintro e w13 ⟨rfl, hb⟩; have D13 := Lib.hid (D12.out.below hb); have P13 := Lib.hid (P12.out.below hb); clear hb this c12)
        | ((with_reducible refine (T1.out _ _ _ D8.out.one).mono ?_); rintro e w9 ⟨rfl, hb⟩; have D9 := Lib.hid (D8.out.below hb); have E99 := Lib.hid (E98.out.below hb); have N29 := Lib.hid (N28.out.below hb); clear hb c8)))
    | ((with_reducible refine Step.gate_alloc (t := 47) rfl ?_); refine Step.freshAlloc rfl rfl (alloc_agg zero_place) ?_; intro g10 w10 b hg hb; have P10 := Lib.hid b; have D10 := Lib.hid (D9.out.below hb); have E9a := Lib.hid (E99.out.below hb); have N210 := Lib.hid (N29.out.below hb); have HG10 := Lib.hid (show ∀ k, F1 k ∨ F2 k → k ≠ g10 from fun k h e => by subst e; have := D9.out.bound k h; omega); have HN10 := Lib.hid (show w1.heap.size ≤ g10 from by have := D9.out.mod.size; omega); have NE10 := Lib.hid (show g9 ≠ g10 from by have := E99.out.lt; omega); have NE210 := Lib.hid (show g2 ≠ g10 from by have := N29.out.lt; omega); clear b hg hb)
    | ((with_reducible refine Step.gate_store (t := 47) rfl ?_); (first
        | (have this := Lib.hid P13; refine Step.storeAll (vs := #[.int .u64 va, .int .u64 va, .int .i64 0, .bool false]) P13.out rfl rfl rfl rfl rfl size_place rfl rfl ?_; intro w14 nb m; have P14 := Lib.hid nb; have D14 := Lib.hid (D13.out.other m (fun k h e => HG10.out k h e) (fun k e => by obtain rfl : k = g10 := e; exact HN10.out)); clear nb m this)
        | (refine Step.storeAll (vs := #[.int .u64 pa, .int .u64 gp, .int .i64 fa, .bool wa]) P10.out rfl rfl rfl rfl rfl size_place rfl rfl ?_; intro w11 nb m; have P11 := Lib.hid nb; have D11 := Lib.hid (D10.out.other m (fun k h e => HG10.out k h e) (fun k e => by obtain rfl : k = g10 := e; exact HN10.out)); have E9b := Lib.hid (E9a.out.one m NE10.out); have N211 := Lib.hid (N210.out.one m NE210.out); have d0 := (E9a.out.one m NE10.out).cell 0; have p0 := nb.cell 0; have p1 := nb.cell 1; have p2 := nb.cell 2; simp only [List.getElem?_toArray, List.getElem?_cons_zero, List.getElem?_cons_succ] at d0 p0 p1 p2; clear nb m)))
    | ((with_reducible refine Step.gate_load (t := 47) rfl ?_); refine Step.loadAll P14.out rfl rfl rfl hu4 rfl size_place ?_)
    | (go_at_call 13; refine (AW.out _).mono ?_; rintro e w15 ⟨rfl, hb⟩; have D15 := Lib.hid (D14.out.below hb); clear hb))
  go_ret
  exact ⟨rfl, HB1.out.trans (D15.out.out.mono HB1.out.size)⟩

theorem off_any (A : Option Addr) (len cap : Nat) (f : Nat → Int × Int) (satp root : Int) (user sum mxr : Bool) (va a : Int) (W : World) (r : RdC W A len f (· < W.heap.size)) (hl : len ≤ 9223372036854775807) (hs : U64 satp) (hr : U64 root) (w1 : (Lit.int .u64 va).wf = true) (w2 : (Lit.int .i64 a).wf = true) :
    Calls Try.prog 7 #[.agg (caseV A len cap satp root user sum mxr), .int .u64 va, .int .i64 a] W fun e w' => e = .returned (.bool true) ∧ Below W.heap.size W w' := by
  by_cases h : (translate 0 8 (cm 8 f len) satp 0 user sum mxr va a).fault = 0
  · exact off_n A len cap f satp root user sum mxr va a W r hl hs hr (u64_wf w1) h ((off_second (cm 8 f len) satp va a user sum mxr).resolve_left fun h2 => h2 h)
  · exact off_f A len cap f satp root user sum mxr va a W r hl hs hr (u64_wf w1) h
end Go.Proofs.Ytfoocpcpljlndaa.Duo
