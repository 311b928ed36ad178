/- The walk of PageGuests: the second stage as the document's, by any tables. -/
import Derived.Test.YtfoocpcpljlndaaAwakeB
import Derived.Test.YtfoocpcpljlndaaRefG
namespace Go.Proofs.Ytfoocpcpljlndaa.Duo
open Go Go.RowKit Go.Proofs.Ytfoocpcpljlndaa.Step Go.Proofs.Ytfoocpcpljlndaa.Mem Go.Proofs.Ytfoocpcpljlndaa.Tab
set_option linter.unusedVariables false
set_option linter.unusedSimpArgs false
set_option maxRecDepth 100000

set_option maxHeartbeats 4000000 in
theorem guests_any (A : Option Addr) (len cap : Nat) (f : Nat → Int × Int) (satp root : Int) (user sum mxr : Bool) (gpa a : Int) (W : World) (r : RdC W A len f (· < W.heap.size)) (hl : len ≤ 9223372036854775807) (hs : U64 satp) (hr : U64 root) (w1 : (Lit.int .u64 gpa).wf = true) (w2 : (Lit.int .i64 a).wf = true) :
    Calls Try.prog 5 #[.agg (caseV A len cap satp root user sum mxr), .int .u64 gpa, .int .i64 a] W fun e w' => e = .returned (.bool true) ∧ Below W.heap.size W w' := by
  have R := Lib.hid r
  have HL := Lib.hid hl
  have HR := Lib.hid hr
  have HG := Lib.hid (u64_wf w1)
  have AW := Lib.hid awake_any
  have hu := Try.underlying31
  have hu2 := Try.underlying27
  have hu3 := Try.underlying25
  clear r hl hs hr w1 w2
  unfold caseV
  go_enter Try.func5, Try.ntmps5
  go_wp2_with (first
    | ((with_reducible refine Step.gate_box (t := 27) rfl ?_); refine Step.fresh (cs := #[.slice A len cap, .int .u64 satp, .int .u64 root, .bool user, .bool sum, .bool mxr]) (T := 27) rfl ?hr ?_; (case hr => first | (go_simp; done) | (go_simp; rfl)); intro g1 w1 b hg hb; have B1 := Lib.hid b; have HB1 := Lib.hid hb; clear b hg hb)
    | ((with_reducible refine Step.gate_load (t := 27) rfl ?_); refine Step.loadAll B1.out rfl rfl rfl hu2 rfl size_case ?_)
    | (go_at_call 11; refine (case_any _ A len cap f satp root user sum mxr ((R.out.mod (Mod.of_below HB1.out Nil) (fun k hk h => h) (fun k hk => hk)).wide (fun k hk => Nat.lt_of_lt_of_le hk HB1.out.size)) HL.out).mono ?_; rintro e w3 ⟨h1, h2, F1, F2, rfl, d⟩; have D := Lib.hid d; have B13 := Lib.hid (B1.out.mod d.mod (fun h => h)); clear d)
    | ((with_reducible refine Step.gate_alloc (t := 31) rfl ?_); refine Step.freshAlloc rfl rfl (alloc_agg zero_two) ?_; intro g2 w4 b hg hb; have B2 := Lib.hid b; have D2 := Lib.hid (D.out.below hb); have B14 := Lib.hid (B13.out.below hb); have HG2 := Lib.hid (show ∀ k, F1 k ∨ F2 k → k ≠ g2 from fun k h e => by subst e; have := D.out.bound k h; omega); have HN2 := Lib.hid (show w1.heap.size ≤ g2 from Nat.le_trans D.out.mod.size hg); have NE := Lib.hid (show g1 ≠ g2 from by have := B13.out.lt; omega); clear b hg hb)
    | ((with_reducible refine Step.gate_store (t := 31) rfl ?_); refine Step.storeAll (vs := #[.pointer (some ⟨h1, 0, none⟩), .pointer (some ⟨h2, 0, none⟩)]) B2.out rfl rfl rfl rfl rfl size_two rfl rfl ?_; intro w5 nb m; have N2 := Lib.hid nb; have N1 := Lib.hid (B14.out.one m NE.out); have c0 := nb.cell 0; have c2 := N1.out.cell 2; have D3 := Lib.hid (D2.out.other m (fun k h e => HG2.out k h e) (fun k e => by obtain rfl : k = g2 := e; exact HN2.out)); simp only [List.getElem?_toArray, List.getElem?_cons_zero, List.getElem?_cons_succ] at c0 c2; clear nb m)
    | (go_at_call 12; refine (guest_any D3.out.one root gpa a HR.out HG.out).mono ?_; rintro e w6 ⟨rfl, hb⟩; have D6 := Lib.hid (D3.out.below hb); have N26 := Lib.hid (N2.out.below hb); have N16 := Lib.hid (N1.out.below hb); have d1 := N26.out.cell 1; have d2 := N16.out.cell 2; simp only [List.getElem?_toArray, List.getElem?_cons_zero, List.getElem?_cons_succ] at d1 d2; clear hb c0 c2)
    | (go_at_call 16; refine (rguest_any D6.out.two root gpa a HR.out HG.out).mono ?_; rintro e w7 ⟨rfl, hb⟩; have D7 := Lib.hid (D6.out.below hb); have N27 := Lib.hid (N26.out.below hb); have e0 := N27.out.cell 0; have e1 := N27.out.cell 1; simp only [List.getElem?_toArray, List.getElem?_cons_zero, List.getElem?_cons_succ] at e0 e1; clear hb d1 d2)
    | (go_at_call 17; refine (Ref.same_two D7.out.one D7.out.two).mono ?_; rintro e w8 ⟨rfl, hb⟩; have D8 := Lib.hid (D7.out.below hb); clear hb)
    | (go_at_call 13; refine (AW.out _).mono ?_; rintro e w9 ⟨rfl, hb⟩; have D9 := Lib.hid (D8.out.below hb); clear hb))
  go_ret
  exact ⟨rfl, HB1.out.trans (D9.out.out.mono HB1.out.size)⟩
end Go.Proofs.Ytfoocpcpljlndaa.Duo
