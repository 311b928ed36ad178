/- A case's memory; the page that the document's example tells. -/
import Derived.Test.YtfoocpcpljlndaaMemoryB
import Derived.Test.YtfoocpcpljlndaaGuest
namespace Go.Proofs.Ytfoocpcpljlndaa.Duo
open Go Go.RowKit Go.Proofs.Ytfoocpcpljlndaa.Step Go.Proofs.Ytfoocpcpljlndaa.Mem Go.Proofs.Ytfoocpcpljlndaa.Tab
set_option linter.unusedVariables false
set_option linter.unusedSimpArgs false
set_option maxRecDepth 100000

theorem u64_wf {v : Int} (h : (Lit.int .u64 v).wf = true) : U64 v := by have := bounds_u64 h; exact ⟨by omega, by omega⟩
theorem i64_wf {v : Int} (h : (Lit.int .i64 v).wf = true) : -9223372036854775808 ≤ v ∧ v < 9223372036854775808 := by have := bounds_i64 h; exact ⟨by omega, by omega⟩
theorem size_case : (Try.prog.info? 27).map (·.size) = some 6 := by kernel_rfl
/-- A case, as an argument. -/
def caseV (A : Option Addr) (len cap : Nat) (satp root : Int) (user sum mxr : Bool) : Array Value := #[.slice A len cap, .int .u64 satp, .int .u64 root, .bool user, .bool sum, .bool mxr]
set_option maxHeartbeats 1000000 in
theorem case_any (W : World) (A : Option Addr) (len cap : Nat) (f : Nat → Int × Int) (satp root : Int) (user sum mxr : Bool) (r : RdC W A len f (· < W.heap.size)) (hl : len ≤ 9223372036854775807) :
    Calls Try.prog 11 #[.agg (caseV A len cap satp root user sum mxr)] W fun e w' => ∃ h1 h2 F1 F2, e = .returned (.tuple #[.agg #[.pointer (some ⟨h1, 0, none⟩), .pointer (some ⟨h2, 0, none⟩)], .bool true]) ∧ Duo W w' h1 h2 0 8 (cm 8 f len) F1 F2 := by
  have R := Lib.hid r
  have HL := Lib.hid hl
  have hu := Try.underlying31
  have hu2 := Try.underlying27
  have hu3 := Try.underlying25
  clear r hl
  unfold caseV
  go_enter Try.func11, Try.ntmps11
  go_wp2_with (first
    | ((with_reducible refine Step.gate_box (t := 27) rfl ?_); refine Step.fresh (cs := #[.slice A len cap, .int .u64 satp, .int .u64 root, .bool user, .bool sum, .bool mxr]) (T := 27) rfl ?hr ?_; (case hr => first | (go_simp; done) | (go_simp; rfl)); intro g1 w1 b hg hb; have B1 := Lib.hid b; have HB1 := Lib.hid hb; have c0 := b.cell 0; simp only [List.getElem?_toArray, List.getElem?_cons_zero] at c0; clear b hg hb)
    | ((with_reducible refine Step.gate_alloc (t := 31) rfl ?_); refine Step.freshAlloc rfl rfl (alloc_agg zero_two) ?_; intro g2 w2 b hg hb; have B2 := Lib.hid b; have HB2 := Lib.hid (HB1.out.trans (hb.mono HB1.out.size)); have HG2 := Lib.hid (show W.heap.size ≤ g2 from Nat.le_trans HB1.out.size hg); have c0' := (hb.cell (p := ⟨g1, 0, none⟩) B1.out.lt).trans c0; clear b hg hb)
    | (go_at_call 15; refine (memory_any _ 0 8 8 rfl (by omega) (by decide) A len cap f ((R.out.mod (Mod.of_below HB2.out Nil) (fun k hk h => h) (fun k hk => hk)).wide (fun k hk => Nat.lt_of_lt_of_le hk HB2.out.size)) HL.out).mono ?_; rintro e w3 ⟨h1, h2, F1, F2, rfl, d⟩; have D := Lib.hid d; have B23 := Lib.hid (B2.out.mod d.mod (fun h => h)); have L2 := Lib.hid (show ∀ k, F1 k ∨ F2 k → k ≠ g2 from fun k h e => by subst e; have := d.new k h; have := B2.out.lt; omega); clear d)
    | ((with_reducible refine Step.gate_store (t := 31) rfl ?_); refine Step.storeAll (vs := #[.pointer (some ⟨h1, 0, none⟩), .pointer (some ⟨h2, 0, none⟩)]) B23.out rfl rfl rfl rfl rfl size_two rfl rfl ?_; intro w5 nb m; have N2 := Lib.hid nb; have HM := Lib.hid m; clear nb m))
  refine bodyPost_ret (results_row_tmp rfl _ _ g2 _ _ _ rfl N2.out hu rfl size_two) rfl ⟨h1, h2, F1, F2, rfl, ?_⟩
  have dd := D.out
  exact ⟨dd.one.mod HM.out (fun k h e => L2.out k (.inl h) e), dd.two.mod HM.out (fun k h e => L2.out k (.inr h) e), dd.apart, fun k h => Nat.le_trans HB2.out.size (dd.new k h), ((Mod.of_below HB2.out Nil).trans dd.mod).trans_new HM.out fun i hi e => by obtain rfl : i = g2 := e; have := HG2.out; omega⟩

def awf : Nat → Int × Int := fun i => if i = 0 then (512, 2049) else if i = 1 then (1024, 3073) else (1541, 7383)
theorem awake_page : guest 0 8 (cm 8 awf 3) 1 20771 2 = (28963, 6, 0) := by decide +kernel
end Go.Proofs.Ytfoocpcpljlndaa.Duo
