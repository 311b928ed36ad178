/- awake: the page that the document's example tells. -/
import Derived.Test.YtfoocpcpljlndaaAwake
namespace Go.Proofs.Ytfoocpcpljlndaa.Duo
open Go Go.RowKit Go.Proofs.Ytfoocpcpljlndaa.Step Go.Proofs.Ytfoocpcpljlndaa.Mem Go.Proofs.Ytfoocpcpljlndaa.Tab
set_option linter.unusedVariables false
set_option linter.unusedSimpArgs false
set_option maxRecDepth 100000

theorem rd_cells {W : World} {g n c : Nat} {cs : Array Value} {T : TypeId} {f : Nat → Int × Int} (b : Blk W g cs T)
    (h : ∀ i, i < n → cs[i * 2]? = some (.int .i64 (f i).1) ∧ cs[i * 2 + 1]? = some (.int .u64 (f i).2) ∧ (-9223372036854775808 ≤ (f i).1 ∧ (f i).1 < 9223372036854775808) ∧ (0 ≤ (f i).2 ∧ (f i).2 < 18446744073709551616)) : RdC W (some ⟨g, 0, none⟩) n f (· < W.heap.size) := fun i hi => by
  obtain ⟨h0, h1, h2⟩ := h i hi
  have e : ∀ j, (⟨g, 0, none⟩ : Addr).add j = ⟨g, j, none⟩ := fun j => by unfold Addr.add; split <;> simp_all
  exact ⟨_, rfl, b.lt, by rw [e]; exact (b.cell _).trans h0, by rw [e]; exact (b.cell _).trans h1, h2⟩
theorem awf_ok : ∀ i, i < 3 → (#[Value.int .i64 512, .int .u64 2049, .int .i64 1024, .int .u64 3073, .int .i64 1541, .int .u64 7383] : Array Value)[i * 2]? = some (.int .i64 (awf i).1) ∧ (#[Value.int .i64 512, .int .u64 2049, .int .i64 1024, .int .u64 3073, .int .i64 1541, .int .u64 7383] : Array Value)[i * 2 + 1]? = some (.int .u64 (awf i).2) ∧ (-9223372036854775808 ≤ (awf i).1 ∧ (awf i).1 < 9223372036854775808) ∧ (0 ≤ (awf i).2 ∧ (awf i).2 < 18446744073709551616) := by
  intro i hi
  obtain e | e | e : i = 0 ∨ i = 1 ∨ i = 2 := by omega
  all_goals subst e; exact ⟨rfl, rfl, by decide, by decide⟩
theorem guest_aw {W : World} {h : Nat} {F : Nat → Prop} (r : Ram W h 0 8 (cm 8 awf 3) F) :
    Calls Try.prog 12 #[.pointer (some ⟨h, 0, none⟩), .int .u64 1, .int .u64 20771, .int .i64 2] W fun e W' => e = .returned (.tuple #[.int .u64 28963, .int .i64 6, .int .i64 0]) ∧ Below W.heap.size W W' :=
  (guest_any r 1 20771 2 ⟨by decide, by decide⟩ ⟨by decide, by decide⟩).mono fun e W' h => ⟨by rw [h.1, awake_page], h.2⟩
set_option maxHeartbeats 1000000 in
theorem awake_any (W : World) : Calls Try.prog 13 #[] W fun e w' => e = .returned (.bool true) ∧ Below W.heap.size W w' := by
  have hu := Try.underlying31
  have hu2 := Try.underlying41
  go_enter Try.func13, Try.ntmps13
  go_wp2_with (first
    | ((with_reducible refine Step.gate_build (t := 22) rfl ?_); refine Step.freshSlice (cs := #[.int .i64 512, .int .u64 2049, .int .i64 1024, .int .u64 3073, .int .i64 1541, .int .u64 7383]) (T := 41) (n := 3) (m := 3) rfl ?hr ?_; (case hr => first | (go_simp; done) | (go_simp; rfl)); intro g1 w1 b hg hb; have RC := Lib.hid (rd_cells (n := 3) (c := 3) (f := awf) b awf_ok); have HB1 := Lib.hid hb; clear b hg hb)
    | (go_at_call 15; refine (memory_any _ 0 8 8 rfl (by omega) (by decide) (some ⟨g1, 0, none⟩) 3 3 awf RC.out (by decide)).mono ?_; rintro e w3 ⟨h1, h2, F1, F2, rfl, d⟩; have D := Lib.hid d; clear d)
    | ((with_reducible refine Step.gate_alloc (t := 31) rfl ?_); refine Step.freshAlloc rfl rfl (alloc_agg zero_two) ?_; intro g2 w4 b hg hb; have B2 := Lib.hid b; have D2 := Lib.hid (D.out.below hb); have HG2 := Lib.hid (show ∀ k, F1 k ∨ F2 k → k ≠ g2 from fun k h e => by subst e; have := D.out.bound k h; omega); have HN2 := Lib.hid (show w1.heap.size ≤ g2 from Nat.le_trans D.out.mod.size hg); clear b hg hb)
    | ((with_reducible refine Step.gate_store (t := 31) rfl ?_); refine Step.storeAll (vs := #[.pointer (some ⟨h1, 0, none⟩), .pointer (some ⟨h2, 0, none⟩)]) B2.out rfl rfl rfl rfl rfl size_two rfl rfl ?_; intro w5 nb m; have c0 := nb.cell 0; have D3 := Lib.hid (D2.out.other m (fun k h e => HG2.out k h e) (fun k e => by obtain rfl : k = g2 := e; exact HN2.out)); simp only [List.getElem?_toArray, List.getElem?_cons_zero] at c0; clear nb m)
    | (go_at_call 12; refine (guest_aw D3.out.one).mono ?_; rintro e w6 ⟨rfl, hb⟩; have D6 := Lib.hid (D3.out.below hb); clear hb))
  go_ret
  exact ⟨rfl, HB1.out.trans (D6.out.out.mono HB1.out.size)⟩
end Go.Proofs.Ytfoocpcpljlndaa.Duo
