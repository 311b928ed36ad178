/- The walk of PageTranslates (written by gentr.py). -/
import Derived.Test.YtfoocpcpljlndaaAwakeB
import Derived.Test.YtfoocpcpljlndaaRefT
import Derived.Deep.RegionHeld3
namespace Go.Proofs.Ytfoocpcpljlndaa.Duo
open Go Go.RowKit Go.Proofs.Ytfoocpcpljlndaa.Step Go.Proofs.Ytfoocpcpljlndaa.Mem Go.Proofs.Ytfoocpcpljlndaa.Tab
set_option linter.unusedVariables false
set_option linter.unusedSimpArgs false
set_option maxRecDepth 100000

theorem translate_is {W : World} {h n : Nat} {base : Int} {mem : Nat → Int} {F : Nat → Prop} (r : Ram W h base n mem F) (satp root va a : Int) (user sum mxr : Bool) (hs : U64 satp) (hr : U64 root) (hv : U64 va) {p : Tab.Place} (e : translate base n mem satp root user sum mxr va a = p) :
    Calls Try.prog 18 #[.pointer (some ⟨h, 0, none⟩), .agg #[.int .u64 satp, .int .u64 root, .bool user, .bool sum, .bool mxr], .int .u64 va, .int .i64 a] W fun e W' => e = .returned (.agg #[.int .u64 p.pa, .int .u64 p.gpa, .int .i64 p.fault, .bool p.walk]) ∧ Below W.heap.size W W' :=
  e ▸ translate_any r satp root va a user sum mxr hs hr hv
theorem rtranslate_is {W : World} {h n : Nat} {base : Int} {mem : Nat → Int} {F : Nat → Prop} (r : Ref.Mem W h base n mem F) (satp root va a : Int) (user sum mxr : Bool) (hs : U64 satp) (hr : U64 root) (hv : U64 va) {p : Tab.Place} (e : translate base n mem satp root user sum mxr va a = p) :
    Calls Try.prog 20 #[.pointer (some ⟨h, 0, none⟩), .agg #[.int .u64 satp, .int .u64 root, .bool user, .bool sum, .bool mxr], .int .u64 va, .int .i64 a] W fun e W' => e = .returned (.agg #[.int .u64 p.pa, .int .u64 p.gpa, .int .i64 p.fault, .bool p.walk]) ∧ Below W.heap.size W W' :=
  e ▸ rtranslate_any r satp root va a user sum mxr hs hr hv

set_option maxHeartbeats 8000000 in
theorem translates_any (A : Option Addr) (len cap : Nat) (f : Nat → Int × Int) (satp root : Int) (user sum mxr : Bool) (va a : Int) (W : World) (r : RdC W A len f (· < W.heap.size)) (hl : len ≤ 9223372036854775807) (hs : U64 satp) (hr : U64 root) (w1 : (Lit.int .u64 va).wf = true) (w2 : (Lit.int .i64 a).wf = true) :
    Calls Try.prog 10 #[.agg (caseV A len cap satp root user sum mxr), .int .u64 va, .int .i64 a] W fun e w' => e = .returned (.bool true) ∧ Below W.heap.size W w' := by
  obtain ⟨p, hp⟩ : ∃ p, translate 0 8 (cm 8 f len) satp root user sum mxr va a = p := ⟨_, rfl⟩
  have R := Lib.hid r
  have HL := Lib.hid hl
  have hv := u64_wf w1
  have T1 := Lib.hid (fun (W : World) (h : Nat) (F : Nat → Prop) (r : Ram W h 0 8 (cm 8 f len) F) => translate_is r satp root va a user sum mxr hs hr hv hp)
  have T2 := Lib.hid (fun (W : World) (h : Nat) (F : Nat → Prop) (r : Ref.Mem W h 0 8 (cm 8 f len) F) => rtranslate_is r satp root va a user sum mxr hs hr hv hp)
  have AW := Lib.hid awake_any
  have hu := Try.underlying31
  have hu2 := Try.underlying27
  have hu3 := Try.underlying25
  have hu4 := Try.underlying47
  clear r hl hs hr w1 w2 hv hp
  obtain ⟨pa, gp, fa, wa⟩ := p
  unfold caseV
  go_enter Try.func10, Try.ntmps10
  go_wp2_with (first
    | ((with_reducible refine Step.gate_box (t := 27) rfl ?_); refine Step.fresh (cs := #[.slice A len cap, .int .u64 satp, .int .u64 root, .bool user, .bool sum, .bool mxr]) (T := 27) rfl ?hr ?_; (case hr => first | (go_simp; done) | (go_simp; rfl)); intro g1 w1 b hg hb; have B1 := Lib.hid b; have HB1 := Lib.hid hb; clear b hg hb)
    | ((with_reducible refine Step.gate_load (t := 27) rfl ?_); refine Step.loadAll B1.out rfl rfl rfl hu2 rfl size_case ?_)
    | (go_at_call 11; refine (case_any _ A len cap f satp root user sum mxr ((R.out.mod (Mod.of_below HB1.out Nil) (fun k hk h => h) (fun k hk => hk)).wide (fun k hk => Nat.lt_of_lt_of_le hk HB1.out.size)) HL.out).mono ?_; rintro e w3 ⟨h1, h2, F1, F2, rfl, d⟩; have D := Lib.hid d; have B13 := Lib.hid (B1.out.mod d.mod (fun h => h)); clear d)
    | ((with_reducible refine Step.gate_alloc (t := 31) rfl ?_); refine Step.freshAlloc rfl rfl (alloc_agg zero_two) ?_; intro g2 w4 b hg hb; have B2 := Lib.hid b; have D2 := Lib.hid (D.out.below hb); have B14 := Lib.hid (B13.out.below hb); have HG2 := Lib.hid (show ∀ k, F1 k ∨ F2 k → k ≠ g2 from fun k h e => by subst e; have := D.out.bound k h; omega); have HN2 := Lib.hid (show w1.heap.size ≤ g2 from Nat.le_trans D.out.mod.size hg); have NE := Lib.hid (show g1 ≠ g2 from by have := B13.out.lt; omega); clear b hg hb)
    | ((with_reducible refine Step.gate_store (t := 31) rfl ?_); refine Step.storeAll (vs := #[.pointer (some ⟨h1, 0, none⟩), .pointer (some ⟨h2, 0, none⟩)]) B2.out rfl rfl rfl rfl rfl size_two rfl rfl ?_; intro w5 nb m; have N2 := Lib.hid nb; have N1 := Lib.hid (B14.out.one m NE.out); have D3 := Lib.hid (D2.out.other m (fun k h e => HG2.out k h e) (fun k e => by obtain rfl : k = g2 := e; exact HN2.out)); clear nb m))
  have HK5 := Lib.hid (show w5.cell? ⟨g2, 0, none⟩ = some (.pointer (some ⟨h1, 0, none⟩)) ∧ w5.cell? ⟨g2, 1, none⟩ = some (.pointer (some ⟨h2, 0, none⟩)) ∧ w5.cell? ⟨g1, 1, none⟩ = some (.int .u64 satp) ∧ w5.cell? ⟨g1, 2, none⟩ = some (.int .u64 root) ∧ w5.cell? ⟨g1, 3, none⟩ = some (.bool user) ∧ w5.cell? ⟨g1, 4, none⟩ = some (.bool sum) ∧ w5.cell? ⟨g1, 5, none⟩ = some (.bool mxr) from ⟨(N2.out.cell 0).trans rfl, (N2.out.cell 1).trans rfl, (N1.out.cell 1).trans rfl, (N1.out.cell 2).trans rfl, (N1.out.cell 3).trans rfl, (N1.out.cell 4).trans rfl, (N1.out.cell 5).trans rfl⟩)
  go_wp2
  go_region_held3 (fun w' => w'.cell? ⟨g2, 0, none⟩ = some (.pointer (some ⟨h1, 0, none⟩)) ∧ w'.cell? ⟨g2, 1, none⟩ = some (.pointer (some ⟨h2, 0, none⟩)) ∧ w'.cell? ⟨g1, 1, none⟩ = some (.int .u64 satp) ∧ w'.cell? ⟨g1, 2, none⟩ = some (.int .u64 root) ∧ w'.cell? ⟨g1, 3, none⟩ = some (.bool user) ∧ w'.cell? ⟨g1, 4, none⟩ = some (.bool sum) ∧ w'.cell? ⟨g1, 5, none⟩ = some (.bool mxr))
    (first
      | exact HK5.out
      | exact HK6.out
      | exact HK7.out
      | exact HK8.out
      | exact HK9.out)
    (first
      | ((with_reducible refine (T1.out _ _ _ (D3.out.below (Below.drew (Below.refl _ _))).one).mono ?_); rintro e w6 ⟨rfl, hb⟩; have hb5 := (Below.drew (Below.refl w5.heap.size w5)).trans hb; have D6 := Lib.hid (D3.out.below hb5); have N26 := Lib.hid (N2.out.below hb5); have N16 := Lib.hid (N1.out.below hb5); have HK6 := Lib.hid (show w6.cell? ⟨g2, 0, none⟩ = some (.pointer (some ⟨h1, 0, none⟩)) ∧ w6.cell? ⟨g2, 1, none⟩ = some (.pointer (some ⟨h2, 0, none⟩)) ∧ w6.cell? ⟨g1, 1, none⟩ = some (.int .u64 satp) ∧ w6.cell? ⟨g1, 2, none⟩ = some (.int .u64 root) ∧ w6.cell? ⟨g1, 3, none⟩ = some (.bool user) ∧ w6.cell? ⟨g1, 4, none⟩ = some (.bool sum) ∧ w6.cell? ⟨g1, 5, none⟩ = some (.bool mxr) from ⟨(N26.out.cell 0).trans rfl, (N26.out.cell 1).trans rfl, (N16.out.cell 1).trans rfl, (N16.out.cell 2).trans rfl, (N16.out.cell 3).trans rfl, (N16.out.cell 4).trans rfl, (N16.out.cell 5).trans rfl⟩); clear hb hb5)
      | ((with_reducible refine (T2.out _ _ _ D6.out.two).mono ?_); rintro e w7 ⟨rfl, hb⟩; have D7 := Lib.hid (D6.out.below hb); have N27 := Lib.hid (N26.out.below hb); have N17 := Lib.hid (N16.out.below hb); have HK7 := Lib.hid (show w7.cell? ⟨g2, 0, none⟩ = some (.pointer (some ⟨h1, 0, none⟩)) ∧ w7.cell? ⟨g2, 1, none⟩ = some (.pointer (some ⟨h2, 0, none⟩)) ∧ w7.cell? ⟨g1, 1, none⟩ = some (.int .u64 satp) ∧ w7.cell? ⟨g1, 2, none⟩ = some (.int .u64 root) ∧ w7.cell? ⟨g1, 3, none⟩ = some (.bool user) ∧ w7.cell? ⟨g1, 4, none⟩ = some (.bool sum) ∧ w7.cell? ⟨g1, 5, none⟩ = some (.bool mxr) from ⟨(N27.out.cell 0).trans rfl, (N27.out.cell 1).trans rfl, (N17.out.cell 1).trans rfl, (N17.out.cell 2).trans rfl, (N17.out.cell 3).trans rfl, (N17.out.cell 4).trans rfl, (N17.out.cell 5).trans rfl⟩); clear hb)
      | ((with_reducible refine (Ref.same_two D7.out.one D7.out.two).mono ?_); rintro e w8 ⟨rfl, hb⟩; have D8 := Lib.hid (D7.out.below hb); have N28 := Lib.hid (N27.out.below hb); have N18 := Lib.hid (N17.out.below hb); have HK8 := Lib.hid (show w8.cell? ⟨g2, 0, none⟩ = some (.pointer (some ⟨h1, 0, none⟩)) ∧ w8.cell? ⟨g2, 1, none⟩ = some (.pointer (some ⟨h2, 0, none⟩)) ∧ w8.cell? ⟨g1, 1, none⟩ = some (.int .u64 satp) ∧ w8.cell? ⟨g1, 2, none⟩ = some (.int .u64 root) ∧ w8.cell? ⟨g1, 3, none⟩ = some (.bool user) ∧ w8.cell? ⟨g1, 4, none⟩ = some (.bool sum) ∧ w8.cell? ⟨g1, 5, none⟩ = some (.bool mxr) from ⟨(N28.out.cell 0).trans rfl, (N28.out.cell 1).trans rfl, (N18.out.cell 1).trans rfl, (N18.out.cell 2).trans rfl, (N18.out.cell 3).trans rfl, (N18.out.cell 4).trans rfl, (N18.out.cell 5).trans rfl⟩); clear hb)
      | ((with_reducible refine (AW.out _).mono ?_); rintro e w9 ⟨rfl, hb⟩; have D9 := Lib.hid (D8.out.below hb); have N29 := Lib.hid (N28.out.below hb); have N19 := Lib.hid (N18.out.below hb); have HK9 := Lib.hid (show w9.cell? ⟨g2, 0, none⟩ = some (.pointer (some ⟨h1, 0, none⟩)) ∧ w9.cell? ⟨g2, 1, none⟩ = some (.pointer (some ⟨h2, 0, none⟩)) ∧ w9.cell? ⟨g1, 1, none⟩ = some (.int .u64 satp) ∧ w9.cell? ⟨g1, 2, none⟩ = some (.int .u64 root) ∧ w9.cell? ⟨g1, 3, none⟩ = some (.bool user) ∧ w9.cell? ⟨g1, 4, none⟩ = some (.bool sum) ∧ w9.cell? ⟨g1, 5, none⟩ = some (.bool mxr) from ⟨(N29.out.cell 0).trans rfl, (N29.out.cell 1).trans rfl, (N19.out.cell 1).trans rfl, (N19.out.cell 2).trans rfl, (N19.out.cell 3).trans rfl, (N19.out.cell 4).trans rfl, (N19.out.cell 5).trans rfl⟩); clear hb))
  go_wp2
  go_ret
  exact ⟨rfl, HB1.out.trans (D9.out.out.mono HB1.out.size)⟩
end Go.Proofs.Ytfoocpcpljlndaa.Duo
