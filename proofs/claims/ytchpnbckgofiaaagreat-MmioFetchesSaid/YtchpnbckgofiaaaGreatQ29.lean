/- Parts of the walks and laws for the claim: Fetch; no conditions beyond the theorems' own. -/
import Derived.Test.YtchpnbckgofiaaaGreatQ2
import Derived.Test.YtchpnbckgofiaaaGreatQ4
import Derived.Test.YtchpnbckgofiaaaGreatQ11
import Derived.Test.YtchpnbckgofiaaaGreatQ28
section
namespace Go.Proofs.YtchpnbckgofiaaaGreat.Hart
open Go Go.RowKit Go.Proofs.YtchpnbckgofiaaaGreat.Step Go.Proofs.YtchpnbckgofiaaaGreat.Enc Go.Proofs.YtchpnbckgofiaaaGreat.Kn
open Go.Proofs.YtchpnbckgofiaaaGreat.Mem (Ram Grow hasB wholeB num wr Rd below_drawn)
open Go.Proofs.YtchpnbckgofiaaaGreat.Tab (translate)
set_option linter.unusedVariables false
set_option linter.unusedSimpArgs false
set_option maxRecDepth 100000
theorem zero_plc : (Tryz.prog.info? 79).bind (·.zero) = some (.agg #[.int .u64 0, .int .u64 0, .int .i64 0, .bool false]) := by kernel_rfl
theorem size_plc {a b c : Int} {d : Bool} : (Tryz.prog.info? 79).map (·.size) = some (#[.int .u64 a, .int .u64 b, .int .i64 c, .bool d] : Array Value).size := (by kernel_rfl : (Tryz.prog.info? 79).map (·.size) = some 4)
theorem results2 {P : Program} {fn : Func} {a b : Tmp} (h : fn.results = #[.tmp a, .tmp b]) (tmps : Array Value) (w : World) : (results fn tmps).run P w = .ok (.tuple #[tmps.getD a undef, tmps.getD b undef]) w := by
  simp only [results, h]
  simp
theorem results3 {P : Program} {fn : Func} {a b c : Tmp} (h : fn.results = #[.tmp a, .tmp b, .tmp c]) (tmps : Array Value) (w : World) : (results fn tmps).run P w = .ok (.tuple #[tmps.getD a undef, tmps.getD b undef, tmps.getD c undef]) w := by
  simp only [results, h]
  simp
theorem tab_u {v : Int} (h : Hart.U64 v) : Tab.U64 v := ⟨h.out.1, h.out.2⟩
/-- The place that a translation comes to lies within the words. -/
theorem trans_pa {base : Int} {n : Nat} {mem : Nat → Int} (hb : 0 ≤ base) (hm : ∀ i, i < n * 4096 → 0 ≤ mem i ∧ mem i < 256) {satp root va a : Int} {user sum mxr : Bool} (hv : Tab.U64 va) : Tab.U64 (translate base n mem satp root user sum mxr va a).pa := by
  have e : Tab.fst (Tab.virt base n mem root) satp user sum mxr va a = Tab.fst (Tab.virtW base n mem root) satp user sum mxr va a := (Tab.fst_congr satp user sum mxr va a (fun t l ht => Tab.virtW_in ht (Tab.ix_u va l))).symm
  rw [Tab.translate_fst, e]
  cases hf : Tab.fst (Tab.virtW base n mem root) satp user sum mxr va a with
  | page => exact Tab.u0
  | bus f t i => exact Tab.u0
  | ok x =>
    have hx := Tab.fst_ok hv (fun t l => (Tab.virtAt_u (root := root) hb hm (Tab.vaddr_u t (Tab.ix va l))).1) hf
    show Tab.U64 (Tab.second base n mem root x a).pa
    unfold Tab.second
    split
    · exact Tab.u0
    · exact (Tab.guest_u hb hm hx a).1
/-- Two bytes at a virtual address: what stands there, and whether it may be fetched. -/
def halfV (base : Int) (n : Nat) (mem : Nat → Int) (root : Int) (h : Hrt) (va : Int) : Int × Bool :=
  (if hasB base n (translate base n mem h.satp root h.user h.sum h.mxr va 1).pa 2 = true then num mem ((translate base n mem h.satp root h.user h.sum h.mxr va 1).pa - base).toNat 2 else 0,
    hasB base n (translate base n mem h.satp root h.user h.sum h.mxr va 1).pa 2 && ((translate base n mem h.satp root h.user h.sum h.mxr va 1).fault == 0))
theorem halfV_lt {base : Int} {n : Nat} {mem : Nat → Int} (hm : ∀ i, i < n * 4096 → 0 ≤ mem i ∧ mem i < 256) (root : Int) (h : Hrt) (va : Int) : 0 ≤ (halfV base n mem root h va).1 ∧ (halfV base n mem root h va).1 < 65536 := by
  unfold halfV
  dsimp only
  split
  · rename_i hh
    obtain ⟨h0, h1, h2⟩ := of_decide_eq_true hh
    have := Mem.num_range (mem := mem) 2 ((translate base n mem h.satp root h.user h.sum h.mxr va 1).pa - base).toNat fun i h1 h2 => hm i (by omega)
    exact ⟨this.1, this.2⟩
  · omega
set_option maxHeartbeats 4000000 in
theorem half_ok {W : World} {g n : Nat} {base : Int} {mem : Nat → Int} {F : Nat → Prop} {root va : Int} {h : Hrt} {p : Tab.Place} (r : Ram W g base n mem F) (T0 : Hid (∀ X, Ram X g base n mem F → Calls Tryz.prog 31 #[.pointer (some ⟨g, 0, none⟩), .agg #[.int .u64 h.satp, .int .u64 root, .bool h.user, .bool h.sum, .bool h.mxr], .int .u64 va, .int .i64 1] X fun e w' => e = .returned (.agg #[.int .u64 p.pa, .int .u64 p.gpa, .int .i64 p.fault, .bool p.walk]) ∧ Below X.heap.size X w')) {x : Int} (hx : 0 ≤ x ∧ x < 65536) (T1 : Hid (∀ X, Ram X g base n mem F → Calls Tryz.prog 32 #[.pointer (some ⟨g, 0, none⟩), .int .u64 p.pa, .int .i64 2] X fun e w' => e = .returned (.tuple #[.int .u64 x, .bool true]) ∧ Below X.heap.size X w')) (hf : p.fault = 0) : Calls Tryz.prog 13 #[.pointer (some ⟨g, 0, none⟩), .int .u64 root, .agg (hc h), .int .u64 va] W fun e w' => e = .returned (.tuple #[.int .u16 x, .bool true]) ∧ Below W.heap.size W w' := by
  have R := Lib.hid r
  clear r
  have e0 : IntKind.u16.wrap x = x := by rw [IntKind.wrap_u16]; omega
  have e1 : (p.fault == 0) = true := beq_iff_eq.2 hf
  go_enter Tryz.func13, Tryz.ntmps13
  have ST := Lib.hid (Kn.nil (S := Step.Nil) (W := W))
  go_wp2_with (first
 | (go_at_call 31; (with_reducible refine (T0.out _ (R.out.below ST.out.below)).mono ?_); rintro e w' ⟨rfl, hb⟩; replace ST := Lib.hid (ST.out.call hb); clear hb)
 | (go_at_call 32; (with_reducible refine (T1.out _ (R.out.below ST.out.below)).mono ?_); rintro e w' ⟨rfl, hb⟩; replace ST := Lib.hid (ST.out.call hb); clear hb)
 | ((with_reducible refine Step.gate_box (t := 27) rfl ?_); refine Step.fresh (cs := hc h) (T := 27) rfl ?hr ?_; (case hr => go_simp); intro g1 w1 b hg hb; replace ST := Lib.hid (ST.out.made b hg hb); clear b hb; clear hg)
 | (refine Step.freshAlloc rfl rfl (alloc_agg zero_plc) ?_; intro g2 w2 b hg hb; replace ST := Lib.hid (ST.out.made b hg hb); clear b hb; clear hg)
 | (refine Step.storeAll ST.out.at0 rfl rfl rfl rfl rfl size_plc rfl rfl ?_; intro w3 nb m; replace ST := Lib.hid (ST.out.set0 nb m); clear nb m)
 | (refine Step.load ST.out.at0 rfl rfl rfl pl_u64 (hv_ok _ (by decide)) ?_; simp only [hv_user, hv_on, hv_spie, hv_spp, hv_sum, hv_mxr, hv_rsv, hv_stvec, hv_sscr, hv_sepc, hv_scause, hv_stval, hv_sie, hv_sip, hv_satp, hv_resv])
 | (refine Step.load ST.out.at0 rfl rfl rfl pl_bool (hv_ok _ (by decide)) ?_; simp only [hv_user, hv_on, hv_spie, hv_spp, hv_sum, hv_mxr, hv_rsv, hv_stvec, hv_sscr, hv_sepc, hv_scause, hv_stval, hv_sie, hv_sip, hv_satp, hv_resv])
 | (refine Step.load ST.out.at0 rfl rfl rfl pl_u64 rfl ?_)
 | ((with_reducible refine Sq.region (id := 3) (I := fun X => Kn _ _ X _) ?hm1 10 ST.out.drew ?hp1 ?hs1); (case hm1 => rfl); (case hp1 => kernel_rfl); intro ops K hops hK; dsimp only [List.take]; (repeat (first | (refine Sq.seq_move rfl rfl ?_; simp only [Act.put, Act.eval, Array.getD_eq_getD_getElem?, List.getElem?_toArray, List.getElem?_cons_zero, List.getElem?_cons_succ, Option.getD_some, List.setIfInBounds_toArray, List.set_cons_zero, List.set_cons_succ]) | (refine Sq.seq_load (t := 3) (fun X hX => hX.at0) (by rw [hops]; rfl) rfl rfl pl_int rfl ?_; simp only [Act.put, Act.eval, Array.getD_eq_getD_getElem?, List.getElem?_toArray, List.getElem?_cons_zero, List.getElem?_cons_succ, Option.getD_some, List.setIfInBounds_toArray, List.set_cons_zero, List.set_cons_succ]) | (refine' Sq.seq_pure rfl (fun X => _) _; rotate_left; (first | (go_simp; rfl)); simp only [Act.put, Act.eval, Array.getD_eq_getD_getElem?, List.getElem?_toArray, List.getElem?_cons_zero, List.getElem?_cons_succ, Option.getD_some, List.setIfInBounds_toArray, List.set_cons_zero, List.set_cons_succ]) | (refine' Sq.seq_pure_g (by rw [hops]; rfl) (fun X => _) _; rotate_left; (first | (go_simp; rfl)); simp only [Act.put, Act.eval, Array.getD_eq_getD_getElem?, List.getElem?_toArray, List.getElem?_cons_zero, List.getElem?_cons_succ, Option.getD_some, List.setIfInBounds_toArray, List.set_cons_zero, List.set_cons_succ]))); refine Sq.seq_nil ?_; clear hops; refine hK.out _ fun w1 hk => ?_; clear hK; replace ST := Lib.hid hk; clear hk; dsimp only [List.drop]))
  all_goals (refine bodyPost_ret (results2 rfl _ _) rfl ⟨rfl, ST.out.below⟩)
set_option maxHeartbeats 4000000 in
theorem half_bad {W : World} {g n : Nat} {base : Int} {mem : Nat → Int} {F : Nat → Prop} {root va : Int} {h : Hrt} {p : Tab.Place} (r : Ram W g base n mem F) (T0 : Hid (∀ X, Ram X g base n mem F → Calls Tryz.prog 31 #[.pointer (some ⟨g, 0, none⟩), .agg #[.int .u64 h.satp, .int .u64 root, .bool h.user, .bool h.sum, .bool h.mxr], .int .u64 va, .int .i64 1] X fun e w' => e = .returned (.agg #[.int .u64 p.pa, .int .u64 p.gpa, .int .i64 p.fault, .bool p.walk]) ∧ Below X.heap.size X w')) {x : Int} (hx : 0 ≤ x ∧ x < 65536) (T1 : Hid (∀ X, Ram X g base n mem F → Calls Tryz.prog 32 #[.pointer (some ⟨g, 0, none⟩), .int .u64 p.pa, .int .i64 2] X fun e w' => e = .returned (.tuple #[.int .u64 x, .bool true]) ∧ Below X.heap.size X w')) (hf : p.fault ≠ 0) : Calls Tryz.prog 13 #[.pointer (some ⟨g, 0, none⟩), .int .u64 root, .agg (hc h), .int .u64 va] W fun e w' => e = .returned (.tuple #[.int .u16 x, .bool false]) ∧ Below W.heap.size W w' := by
  have R := Lib.hid r
  clear r
  have e0 : IntKind.u16.wrap x = x := by rw [IntKind.wrap_u16]; omega
  have e1 : (p.fault == 0) = false := beq_eq_false_iff_ne.2 hf
  go_enter Tryz.func13, Tryz.ntmps13
  have ST := Lib.hid (Kn.nil (S := Step.Nil) (W := W))
  go_wp2_with (first
 | (go_at_call 31; (with_reducible refine (T0.out _ (R.out.below ST.out.below)).mono ?_); rintro e w' ⟨rfl, hb⟩; replace ST := Lib.hid (ST.out.call hb); clear hb)
 | (go_at_call 32; (with_reducible refine (T1.out _ (R.out.below ST.out.below)).mono ?_); rintro e w' ⟨rfl, hb⟩; replace ST := Lib.hid (ST.out.call hb); clear hb)
 | ((with_reducible refine Step.gate_box (t := 27) rfl ?_); refine Step.fresh (cs := hc h) (T := 27) rfl ?hr ?_; (case hr => go_simp); intro g1 w1 b hg hb; replace ST := Lib.hid (ST.out.made b hg hb); clear b hb; clear hg)
 | (refine Step.freshAlloc rfl rfl (alloc_agg zero_plc) ?_; intro g2 w2 b hg hb; replace ST := Lib.hid (ST.out.made b hg hb); clear b hb; clear hg)
 | (refine Step.storeAll ST.out.at0 rfl rfl rfl rfl rfl size_plc rfl rfl ?_; intro w3 nb m; replace ST := Lib.hid (ST.out.set0 nb m); clear nb m)
 | (refine Step.load ST.out.at0 rfl rfl rfl pl_u64 (hv_ok _ (by decide)) ?_; simp only [hv_user, hv_on, hv_spie, hv_spp, hv_sum, hv_mxr, hv_rsv, hv_stvec, hv_sscr, hv_sepc, hv_scause, hv_stval, hv_sie, hv_sip, hv_satp, hv_resv])
 | (refine Step.load ST.out.at0 rfl rfl rfl pl_bool (hv_ok _ (by decide)) ?_; simp only [hv_user, hv_on, hv_spie, hv_spp, hv_sum, hv_mxr, hv_rsv, hv_stvec, hv_sscr, hv_sepc, hv_scause, hv_stval, hv_sie, hv_sip, hv_satp, hv_resv])
 | (refine Step.load ST.out.at0 rfl rfl rfl pl_u64 rfl ?_)
 | ((with_reducible refine Sq.region (id := 3) (I := fun X => Kn _ _ X _) ?hm1 10 ST.out.drew ?hp1 ?hs1); (case hm1 => rfl); (case hp1 => kernel_rfl); intro ops K hops hK; dsimp only [List.take]; (repeat (first | (refine Sq.seq_move rfl rfl ?_; simp only [Act.put, Act.eval, Array.getD_eq_getD_getElem?, List.getElem?_toArray, List.getElem?_cons_zero, List.getElem?_cons_succ, Option.getD_some, List.setIfInBounds_toArray, List.set_cons_zero, List.set_cons_succ]) | (refine Sq.seq_load (t := 3) (fun X hX => hX.at0) (by rw [hops]; rfl) rfl rfl pl_int rfl ?_; simp only [Act.put, Act.eval, Array.getD_eq_getD_getElem?, List.getElem?_toArray, List.getElem?_cons_zero, List.getElem?_cons_succ, Option.getD_some, List.setIfInBounds_toArray, List.set_cons_zero, List.set_cons_succ]) | (refine' Sq.seq_pure rfl (fun X => _) _; rotate_left; (first | (go_simp; rfl)); simp only [Act.put, Act.eval, Array.getD_eq_getD_getElem?, List.getElem?_toArray, List.getElem?_cons_zero, List.getElem?_cons_succ, Option.getD_some, List.setIfInBounds_toArray, List.set_cons_zero, List.set_cons_succ]) | (refine' Sq.seq_pure_g (by rw [hops]; rfl) (fun X => _) _; rotate_left; (first | (go_simp; rfl)); simp only [Act.put, Act.eval, Array.getD_eq_getD_getElem?, List.getElem?_toArray, List.getElem?_cons_zero, List.getElem?_cons_succ, Option.getD_some, List.setIfInBounds_toArray, List.set_cons_zero, List.set_cons_succ]))); refine Sq.seq_nil ?_; clear hops; refine hK.out _ fun w1 hk => ?_; clear hK; replace ST := Lib.hid hk; clear hk; dsimp only [List.drop]))
  all_goals (refine bodyPost_ret (results2 rfl _ _) rfl ⟨rfl, ST.out.below⟩)
set_option maxHeartbeats 4000000 in
theorem half_no {W : World} {g n : Nat} {base : Int} {mem : Nat → Int} {F : Nat → Prop} {root va : Int} {h : Hrt} {p : Tab.Place} (r : Ram W g base n mem F) (T0 : Hid (∀ X, Ram X g base n mem F → Calls Tryz.prog 31 #[.pointer (some ⟨g, 0, none⟩), .agg #[.int .u64 h.satp, .int .u64 root, .bool h.user, .bool h.sum, .bool h.mxr], .int .u64 va, .int .i64 1] X fun e w' => e = .returned (.agg #[.int .u64 p.pa, .int .u64 p.gpa, .int .i64 p.fault, .bool p.walk]) ∧ Below X.heap.size X w')) (T1 : Hid (∀ X, Ram X g base n mem F → Calls Tryz.prog 32 #[.pointer (some ⟨g, 0, none⟩), .int .u64 p.pa, .int .i64 2] X fun e w' => e = .returned (.tuple #[.int .u64 0, .bool false]) ∧ Below X.heap.size X w')) : Calls Tryz.prog 13 #[.pointer (some ⟨g, 0, none⟩), .int .u64 root, .agg (hc h), .int .u64 va] W fun e w' => e = .returned (.tuple #[.int .u16 0, .bool false]) ∧ Below W.heap.size W w' := by
  have R := Lib.hid r
  clear r
  have e0 : IntKind.u16.wrap 0 = 0 := by decide
  go_enter Tryz.func13, Tryz.ntmps13
  have ST := Lib.hid (Kn.nil (S := Step.Nil) (W := W))
  go_wp2_with (first
 | (go_at_call 31; (with_reducible refine (T0.out _ (R.out.below ST.out.below)).mono ?_); rintro e w' ⟨rfl, hb⟩; replace ST := Lib.hid (ST.out.call hb); clear hb)
 | (go_at_call 32; (with_reducible refine (T1.out _ (R.out.below ST.out.below)).mono ?_); rintro e w' ⟨rfl, hb⟩; replace ST := Lib.hid (ST.out.call hb); clear hb)
 | ((with_reducible refine Step.gate_box (t := 27) rfl ?_); refine Step.fresh (cs := hc h) (T := 27) rfl ?hr ?_; (case hr => go_simp); intro g1 w1 b hg hb; replace ST := Lib.hid (ST.out.made b hg hb); clear b hb; clear hg)
 | (refine Step.freshAlloc rfl rfl (alloc_agg zero_plc) ?_; intro g2 w2 b hg hb; replace ST := Lib.hid (ST.out.made b hg hb); clear b hb; clear hg)
 | (refine Step.storeAll ST.out.at0 rfl rfl rfl rfl rfl size_plc rfl rfl ?_; intro w3 nb m; replace ST := Lib.hid (ST.out.set0 nb m); clear nb m)
 | (refine Step.load ST.out.at0 rfl rfl rfl pl_u64 (hv_ok _ (by decide)) ?_; simp only [hv_user, hv_on, hv_spie, hv_spp, hv_sum, hv_mxr, hv_rsv, hv_stvec, hv_sscr, hv_sepc, hv_scause, hv_stval, hv_sie, hv_sip, hv_satp, hv_resv])
 | (refine Step.load ST.out.at0 rfl rfl rfl pl_bool (hv_ok _ (by decide)) ?_; simp only [hv_user, hv_on, hv_spie, hv_spp, hv_sum, hv_mxr, hv_rsv, hv_stvec, hv_sscr, hv_sepc, hv_scause, hv_stval, hv_sie, hv_sip, hv_satp, hv_resv])
 | (refine Step.load ST.out.at0 rfl rfl rfl pl_u64 rfl ?_)
 | ((with_reducible refine Sq.region (id := 3) (I := fun X => Kn _ _ X _) ?hm1 10 ST.out.drew ?hp1 ?hs1); (case hm1 => rfl); (case hp1 => kernel_rfl); intro ops K hops hK; dsimp only [List.take]; (repeat (first | (refine Sq.seq_move rfl rfl ?_; simp only [Act.put, Act.eval, Array.getD_eq_getD_getElem?, List.getElem?_toArray, List.getElem?_cons_zero, List.getElem?_cons_succ, Option.getD_some, List.setIfInBounds_toArray, List.set_cons_zero, List.set_cons_succ]) | (refine' Sq.seq_pure rfl (fun X => _) _; rotate_left; (first | (go_simp; rfl)); simp only [Act.put, Act.eval, Array.getD_eq_getD_getElem?, List.getElem?_toArray, List.getElem?_cons_zero, List.getElem?_cons_succ, Option.getD_some, List.setIfInBounds_toArray, List.set_cons_zero, List.set_cons_succ]) | (refine Sq.seq_not (by rw [hops]; rfl) ?_; simp only [Act.put, Act.eval, Array.getD_eq_getD_getElem?, List.getElem?_toArray, List.getElem?_cons_zero, List.getElem?_cons_succ, Option.getD_some, List.setIfInBounds_toArray, List.set_cons_zero, List.set_cons_succ]))); refine Sq.seq_nil ?_; clear hops; refine hK.out _ fun w1 hk => ?_; clear hK; replace ST := Lib.hid hk; clear hk; dsimp only [List.drop]))
  all_goals (refine bodyPost_ret (results2 rfl _ _) rfl ⟨rfl, ST.out.below⟩)
theorem half_any {W : World} {g n : Nat} {base : Int} {mem : Nat → Int} {F : Nat → Prop} {root va : Int} {h : Hrt} (r : Ram W g base n mem F) (hf : Fit h) (hr : U64 root) (hv : U64 va) : Calls Tryz.prog 13 #[.pointer (some ⟨g, 0, none⟩), .int .u64 root, .agg (hc h), .int .u64 va] W fun e w' => e = .returned (.tuple #[.int .u16 (halfV base n mem root h va).1, .bool (halfV base n mem root h va).2]) ∧ Below W.heap.size W w' := by
  have T0 := Lib.hid (fun X (q : Ram X g base n mem F) => Tab.translate_any q h.satp root va 1 h.user h.sum h.mxr (tab_u hf.satp) (tab_u hr) (tab_u hv))
  obtain ⟨n1, n2, b1, b2⟩ := r.size
  have hp := trans_pa (root := root) (satp := h.satp) (a := 1) (user := h.user) (sum := h.sum) (mxr := h.mxr) b1 (fun i hi => r.byte hi) (tab_u hv)
  have hlt := halfV_lt (base := base) (fun i hi => r.byte hi) root h va
  have hw : wholeB 2 = true := by decide
  unfold halfV at hlt ⊢
  generalize translate base n mem h.satp root h.user h.sum h.mxr va 1 = p at *
  dsimp only at hlt ⊢
  cases hh : hasB base n p.pa 2 with
  | true =>
    rw [hh] at hlt
    simp only [if_true] at hlt
    have T1 := Lib.hid (fun X (q : Ram X g base n mem F) => (Mem.read_yes q p.pa 2 ⟨hp.1, hp.2⟩ hw hh).mono fun e w' h => And.intro h.1 (Mem.below_drawn h.2))
    by_cases hfa : p.fault = 0
    · rw [show (p.fault == 0) = true from beq_iff_eq.2 hfa]
      simp only [Bool.and_self, if_true]
      exact half_ok r T0 hlt T1 hfa
    · rw [show (p.fault == 0) = false from beq_eq_false_iff_ne.2 hfa]
      simp only [Bool.and_false, if_true, Bool.false_eq_true, if_false]
      exact half_bad r T0 hlt T1 hfa
  | false =>
    have T1 := Lib.hid (fun X (q : Ram X g base n mem F) => (Mem.read_no q p.pa 2 ⟨hp.1, hp.2⟩ (by decide) (by rw [hh]; simp)).mono fun e w' h => And.intro h.1 (Mem.below_drawn h.2))
    simp only [Bool.false_and, Bool.false_eq_true, if_false]
    exact half_no r T0 T1
set_option maxHeartbeats 4000000 in
theorem two_ok {W : World} {g n : Nat} {base : Int} {mem : Nat → Int} {F : Nat → Prop} {root va : Int} {h : Hrt} {p : Tab.Place} (r : Ref.Mem W g base n mem F) (T0 : Hid (∀ X, Ref.Mem X g base n mem F → Calls Tryz.prog 35 #[.pointer (some ⟨g, 0, none⟩), .agg #[.int .u64 h.satp, .int .u64 root, .bool h.user, .bool h.sum, .bool h.mxr], .int .u64 va, .int .i64 1] X fun e w' => e = .returned (.agg #[.int .u64 p.pa, .int .u64 p.gpa, .int .i64 p.fault, .bool p.walk]) ∧ Below X.heap.size X w')) {x : Int} (b : Bool) (T1 : Hid (∀ X, Ref.Mem X g base n mem F → Calls Tryz.prog 36 #[.pointer (some ⟨g, 0, none⟩), .int .u64 p.pa, .int .i64 2] X fun e w' => e = .returned (.tuple #[.int .u64 x, .bool b]) ∧ Below X.heap.size X w')) (hf : p.fault = 0) : Calls Tryz.prog 17 #[.pointer (some ⟨g, 0, none⟩), .int .u64 root, .agg (hc h), .int .u64 va] W fun e w' => e = .returned (.tuple #[.int .u64 x, .bool b]) ∧ Below W.heap.size W w' := by
  have R := Lib.hid r
  clear r
  have e1 : (p.fault != 0) = false := by rw [hf]; rfl
  go_enter Tryz.func17, Tryz.ntmps17
  have ST := Lib.hid (Kn.nil (S := Step.Nil) (W := W))
  go_wp2_with (first
 | (go_at_call 35; (with_reducible refine (T0.out _ (R.out.below ST.out.below)).mono ?_); rintro e w' ⟨rfl, hb⟩; replace ST := Lib.hid (ST.out.call hb); clear hb)
 | (go_at_call 36; (with_reducible refine (T1.out _ (R.out.below ST.out.below)).mono ?_); rintro e w' ⟨rfl, hb⟩; replace ST := Lib.hid (ST.out.call hb); clear hb)
 | ((with_reducible refine Step.gate_box (t := 27) rfl ?_); refine Step.fresh (cs := hc h) (T := 27) rfl ?hr ?_; (case hr => go_simp); intro g1 w1 b hg hb; replace ST := Lib.hid (ST.out.made b hg hb); clear b hb; clear hg)
 | (refine Step.freshAlloc rfl rfl (alloc_agg zero_plc) ?_; intro g2 w2 b hg hb; replace ST := Lib.hid (ST.out.made b hg hb); clear b hb; clear hg)
 | (refine Step.storeAll ST.out.at0 rfl rfl rfl rfl rfl size_plc rfl rfl ?_; intro w3 nb m; replace ST := Lib.hid (ST.out.set0 nb m); clear nb m)
 | (refine Step.load ST.out.at0 rfl rfl rfl pl_u64 (hv_ok _ (by decide)) ?_; simp only [hv_user, hv_on, hv_spie, hv_spp, hv_sum, hv_mxr, hv_rsv, hv_stvec, hv_sscr, hv_sepc, hv_scause, hv_stval, hv_sie, hv_sip, hv_satp, hv_resv])
 | (refine Step.load ST.out.at0 rfl rfl rfl pl_bool (hv_ok _ (by decide)) ?_; simp only [hv_user, hv_on, hv_spie, hv_spp, hv_sum, hv_mxr, hv_rsv, hv_stvec, hv_sscr, hv_sepc, hv_scause, hv_stval, hv_sie, hv_sip, hv_satp, hv_resv])
 | (refine Step.load ST.out.at0 rfl rfl rfl pl_u64 rfl ?_)
 | (refine Step.load ST.out.at0 rfl rfl rfl pl_int rfl ?_))
  all_goals (refine bodyPost_ret (results2 rfl _ _) rfl ⟨rfl, ST.out.below⟩)
set_option maxHeartbeats 4000000 in
theorem two_bad {W : World} {g n : Nat} {base : Int} {mem : Nat → Int} {F : Nat → Prop} {root va : Int} {h : Hrt} {p : Tab.Place} (r : Ref.Mem W g base n mem F) (T0 : Hid (∀ X, Ref.Mem X g base n mem F → Calls Tryz.prog 35 #[.pointer (some ⟨g, 0, none⟩), .agg #[.int .u64 h.satp, .int .u64 root, .bool h.user, .bool h.sum, .bool h.mxr], .int .u64 va, .int .i64 1] X fun e w' => e = .returned (.agg #[.int .u64 p.pa, .int .u64 p.gpa, .int .i64 p.fault, .bool p.walk]) ∧ Below X.heap.size X w')) (hf : p.fault ≠ 0) : Calls Tryz.prog 17 #[.pointer (some ⟨g, 0, none⟩), .int .u64 root, .agg (hc h), .int .u64 va] W fun e w' => e = .returned (.tuple #[.int .u64 0, .bool false]) ∧ Below W.heap.size W w' := by
  have R := Lib.hid r
  clear r
  have e1 : (p.fault != 0) = true := bne_iff_ne.2 hf
  go_enter Tryz.func17, Tryz.ntmps17
  have ST := Lib.hid (Kn.nil (S := Step.Nil) (W := W))
  go_wp2_with (first
 | (go_at_call 35; (with_reducible refine (T0.out _ (R.out.below ST.out.below)).mono ?_); rintro e w' ⟨rfl, hb⟩; replace ST := Lib.hid (ST.out.call hb); clear hb)
 | ((with_reducible refine Step.gate_box (t := 27) rfl ?_); refine Step.fresh (cs := hc h) (T := 27) rfl ?hr ?_; (case hr => go_simp); intro g1 w1 b hg hb; replace ST := Lib.hid (ST.out.made b hg hb); clear b hb; clear hg)
 | (refine Step.freshAlloc rfl rfl (alloc_agg zero_plc) ?_; intro g2 w2 b hg hb; replace ST := Lib.hid (ST.out.made b hg hb); clear b hb; clear hg)
 | (refine Step.storeAll ST.out.at0 rfl rfl rfl rfl rfl size_plc rfl rfl ?_; intro w3 nb m; replace ST := Lib.hid (ST.out.set0 nb m); clear nb m)
 | (refine Step.load ST.out.at0 rfl rfl rfl pl_u64 (hv_ok _ (by decide)) ?_; simp only [hv_user, hv_on, hv_spie, hv_spp, hv_sum, hv_mxr, hv_rsv, hv_stvec, hv_sscr, hv_sepc, hv_scause, hv_stval, hv_sie, hv_sip, hv_satp, hv_resv])
 | (refine Step.load ST.out.at0 rfl rfl rfl pl_bool (hv_ok _ (by decide)) ?_; simp only [hv_user, hv_on, hv_spie, hv_spp, hv_sum, hv_mxr, hv_rsv, hv_stvec, hv_sscr, hv_sepc, hv_scause, hv_stval, hv_sie, hv_sip, hv_satp, hv_resv])
 | (refine Step.load ST.out.at0 rfl rfl rfl pl_int rfl ?_))
  all_goals (refine bodyPost_ret (results2 rfl _ _) rfl ⟨rfl, ST.out.below⟩)
theorem two_any {W : World} {g n : Nat} {base : Int} {mem : Nat → Int} {F : Nat → Prop} {root va : Int} {h : Hrt} (r : Ref.Mem W g base n mem F) (hf : Fit h) (hr : U64 root) (hv : U64 va) : Calls Tryz.prog 17 #[.pointer (some ⟨g, 0, none⟩), .int .u64 root, .agg (hc h), .int .u64 va] W fun e w' => e = .returned (.tuple #[.int .u64 (if (halfV base n mem root h va).2 = true then (halfV base n mem root h va).1 else 0), .bool (halfV base n mem root h va).2]) ∧ Below W.heap.size W w' := by
  have T0 := Lib.hid (fun X (q : Ref.Mem X g base n mem F) => Tab.rtranslate_any q h.satp root va 1 h.user h.sum h.mxr (tab_u hf.satp) (tab_u hr) (tab_u hv))
  obtain ⟨n1, n2, b1, b2⟩ := r.size
  have hp := trans_pa (root := root) (satp := h.satp) (a := 1) (user := h.user) (sum := h.sum) (mxr := h.mxr) b1 (fun i hi => r.byte hi) (tab_u hv)
  have hlt := halfV_lt (base := base) (fun i hi => r.byte hi) root h va
  have hw : wholeB 2 = true := by decide
  unfold halfV at hlt ⊢
  generalize translate base n mem h.satp root h.user h.sum h.mxr va 1 = p at *
  dsimp only at hlt ⊢
  cases hh : hasB base n p.pa 2 with
  | true =>
    rw [hh] at hlt
    simp only [if_true] at hlt
    have T1 := Lib.hid (fun X (q : Ref.Mem X g base n mem F) => (Ref.read_yes q p.pa 2 ⟨hp.1, hp.2⟩ hw hh).mono fun e w' h => And.intro h.1 (show Below X.heap.size X w' from h.2 ▸ Below.refl _ _))
    by_cases hfa : p.fault = 0
    · rw [show (p.fault == 0) = true from beq_iff_eq.2 hfa]
      simp only [Bool.and_self, if_true]
      exact two_ok r T0 _ T1 hfa
    · rw [show (p.fault == 0) = false from beq_eq_false_iff_ne.2 hfa]
      simp only [Bool.and_false, if_true, Bool.false_eq_true, if_false]
      exact two_bad r T0 hfa
  | false =>
    have T1 := Lib.hid (fun X (q : Ref.Mem X g base n mem F) => (Ref.read_no q p.pa 2 ⟨hp.1, hp.2⟩ (by decide) (by rw [hh]; simp)).mono fun e w' h => And.intro h.1 (show Below X.heap.size X w' from h.2 ▸ Below.refl _ _))
    simp only [Bool.false_and, Bool.false_eq_true, if_false]
    by_cases hfa : p.fault = 0
    · exact two_ok r T0 _ T1 hfa
    · exact two_bad r T0 hfa
/-- What Expand answers, as a pair. -/
noncomputable def exV (d : Option Ins) : Int × Bool := match d with | none => (0, false) | some i => (eV i, eB i)
theorem exV_xV (d : Option Ins) : xV d = .tuple #[.int .u32 (exV d).1, .bool (exV d).2] := by cases d <;> rfl
/-- The instruction at a hart's place: its word, its length, whether it is there. -/
noncomputable def fetV (base : Int) (n : Nat) (mem : Nat → Int) (root : Int) (h : Hrt) : Int × Int × Bool :=
  if (halfV base n mem root h h.pc).2 = false then (0, 0, false)
  else if (halfV base n mem root h h.pc).1 % 4 = 3 then
    (if (halfV base n mem root h (IntKind.u64.wrap (h.pc + 2))).2 = false then (0, 0, false) else ((halfV base n mem root h (IntKind.u64.wrap (h.pc + 2))).1 * 65536 + (halfV base n mem root h h.pc).1, 4, true))
  else if (exV (expD (halfV base n mem root h h.pc).1)).2 = false then (0, 0, false) else ((exV (expD (halfV base n mem root h h.pc).1)).1, 2, true)
theorem or_half {a b : Int} (ha : 0 ≤ a ∧ a < 65536) (hb : 0 ≤ b ∧ b < 65536) : bits .or .u32 (IntKind.u32.wrap (a * 65536)) b = a * 65536 + b := by
  rw [show IntKind.u32.wrap (a * 65536) = a * 65536 by rw [IntKind.wrap_u32]; omega]
  exact u32_or_ 16 (by omega) (by omega) (by omega) (by omega)
theorem or_half2 {a b : Int} (ha : 0 ≤ a ∧ a < 65536) (hb : 0 ≤ b ∧ b < 65536) : bits .or .u32 (a * 65536) b = a * 65536 + b := u32_or_ 16 (by omega) (by omega) (by omega) (by omega)
set_option maxHeartbeats 4000000 in
theorem fetch_no {W : World} {g n : Nat} {base : Int} {mem : Nat → Int} {F : Nat → Prop} {root : Int} {h h2 : Hrt} {x y v : Int} (r : Ram W g base n mem F) (T0 : Hid (∀ X, Calls Tryz.prog 12 #[.agg (hc h)] X fun e w' => e = .returned (.agg (hc h2)) ∧ Below X.heap.size X w')) (TL : Hid (∀ X, Ram X g base n mem F → Calls Tryz.prog 13 #[.pointer (some ⟨g, 0, none⟩), .int .u64 root, .agg (hc h2), .int .u64 h2.pc] X fun e w' => e = .returned (.tuple #[.int .u16 x, .bool false]) ∧ Below X.heap.size X w')) : Calls Tryz.prog 5 #[.pointer (some ⟨g, 0, none⟩), .int .u64 root, .agg (hc h)] W fun e w' => e = .returned (.tuple #[.int .u32 0, .int .i64 0, .bool false]) ∧ Below W.heap.size W w' := by
  have R := Lib.hid r
  clear r
  go_enter Tryz.func5, Tryz.ntmps5
  have ST := Lib.hid (Kn.nil (S := Step.Nil) (W := W))
  go_wp2_with (first
 | ((with_reducible refine Step.gate_box (t := 27) rfl ?_); refine Step.fresh (cs := hc h) (T := 27) rfl ?hr ?_; (case hr => go_simp); intro g1 w1 b hg hb; replace ST := Lib.hid (ST.out.made b hg hb); clear b hb; clear hg)
 | (go_at_call 12; (with_reducible refine (T0.out _).mono ?_); rintro e w' ⟨rfl, hb⟩; replace ST := Lib.hid (ST.out.call hb); clear hb)
 | (refine Step.storeAll ST.out.at0 rfl rfl rfl rfl rfl (size_hart _) rfl (hc_all _) ?_; intro w3 nb m; replace ST := Lib.hid (ST.out.set0 nb m); clear nb m)
 | (refine Step.loadAll ST.out.at0 rfl rfl rfl Tryz.underlying27 rfl (size_hart _) ?_)
 | (refine Step.load ST.out.at0 rfl rfl rfl pl_u64 (hv_ok _ (by decide)) ?_; simp only [hv_pc])
 | (go_at_call 13; (first | (with_reducible refine (TL.out _ (R.out.below ST.out.below)).mono ?_)); rintro e w' ⟨rfl, hb⟩; replace ST := Lib.hid (ST.out.call hb); clear hb))
  all_goals (refine bodyPost_ret (results3 rfl _ _) rfl ⟨rfl, ST.out.below⟩)
set_option maxHeartbeats 4000000 in
theorem fetch_c {W : World} {g n : Nat} {base : Int} {mem : Nat → Int} {F : Nat → Prop} {root : Int} {h h2 : Hrt} {x y v : Int} (r : Ram W g base n mem F) (T0 : Hid (∀ X, Calls Tryz.prog 12 #[.agg (hc h)] X fun e w' => e = .returned (.agg (hc h2)) ∧ Below X.heap.size X w')) (hx : 0 ≤ x ∧ x < 65536) (TL : Hid (∀ X, Ram X g base n mem F → Calls Tryz.prog 13 #[.pointer (some ⟨g, 0, none⟩), .int .u64 root, .agg (hc h2), .int .u64 h2.pc] X fun e w' => e = .returned (.tuple #[.int .u16 x, .bool true]) ∧ Below X.heap.size X w')) (TZ : Hid (∀ X, Calls Tryz.prog 14 #[.int .u16 x] X fun e w' => e = .returned (.int .i64 2) ∧ Below X.heap.size X w')) (TX : Hid (∀ X, Calls Tryz.prog 15 #[.int .u16 x] X fun e w' => e = .returned (.tuple #[.int .u32 v, .bool true]) ∧ Below X.heap.size X w')) : Calls Tryz.prog 5 #[.pointer (some ⟨g, 0, none⟩), .int .u64 root, .agg (hc h)] W fun e w' => e = .returned (.tuple #[.int .u32 v, .int .i64 2, .bool true]) ∧ Below W.heap.size W w' := by
  have R := Lib.hid r
  clear r
  go_enter Tryz.func5, Tryz.ntmps5
  have ST := Lib.hid (Kn.nil (S := Step.Nil) (W := W))
  go_wp2_with (first
 | ((with_reducible refine Step.gate_box (t := 27) rfl ?_); refine Step.fresh (cs := hc h) (T := 27) rfl ?hr ?_; (case hr => go_simp); intro g1 w1 b hg hb; replace ST := Lib.hid (ST.out.made b hg hb); clear b hb; clear hg)
 | (go_at_call 12; (with_reducible refine (T0.out _).mono ?_); rintro e w' ⟨rfl, hb⟩; replace ST := Lib.hid (ST.out.call hb); clear hb)
 | (refine Step.storeAll ST.out.at0 rfl rfl rfl rfl rfl (size_hart _) rfl (hc_all _) ?_; intro w3 nb m; replace ST := Lib.hid (ST.out.set0 nb m); clear nb m)
 | (refine Step.loadAll ST.out.at0 rfl rfl rfl Tryz.underlying27 rfl (size_hart _) ?_)
 | (refine Step.load ST.out.at0 rfl rfl rfl pl_u64 (hv_ok _ (by decide)) ?_; simp only [hv_pc])
 | (go_at_call 13; (first | (with_reducible refine (TL.out _ (R.out.below ST.out.below)).mono ?_)); rintro e w' ⟨rfl, hb⟩; replace ST := Lib.hid (ST.out.call hb); clear hb)
 | (go_at_call 14; (with_reducible refine (TZ.out _).mono ?_); rintro e w' ⟨rfl, hb⟩; replace ST := Lib.hid (ST.out.call hb); clear hb)
 | (go_at_call 15; (with_reducible refine (TX.out _).mono ?_); rintro e w' ⟨rfl, hb⟩; replace ST := Lib.hid (ST.out.call hb); clear hb))
  all_goals (refine bodyPost_ret (results3 rfl _ _) rfl ⟨rfl, ST.out.below⟩)
set_option maxHeartbeats 4000000 in
theorem fetch_cno {W : World} {g n : Nat} {base : Int} {mem : Nat → Int} {F : Nat → Prop} {root : Int} {h h2 : Hrt} {x y v : Int} (r : Ram W g base n mem F) (T0 : Hid (∀ X, Calls Tryz.prog 12 #[.agg (hc h)] X fun e w' => e = .returned (.agg (hc h2)) ∧ Below X.heap.size X w')) (hx : 0 ≤ x ∧ x < 65536) (TL : Hid (∀ X, Ram X g base n mem F → Calls Tryz.prog 13 #[.pointer (some ⟨g, 0, none⟩), .int .u64 root, .agg (hc h2), .int .u64 h2.pc] X fun e w' => e = .returned (.tuple #[.int .u16 x, .bool true]) ∧ Below X.heap.size X w')) (TZ : Hid (∀ X, Calls Tryz.prog 14 #[.int .u16 x] X fun e w' => e = .returned (.int .i64 2) ∧ Below X.heap.size X w')) (TX : Hid (∀ X, Calls Tryz.prog 15 #[.int .u16 x] X fun e w' => e = .returned (.tuple #[.int .u32 v, .bool false]) ∧ Below X.heap.size X w')) : Calls Tryz.prog 5 #[.pointer (some ⟨g, 0, none⟩), .int .u64 root, .agg (hc h)] W fun e w' => e = .returned (.tuple #[.int .u32 0, .int .i64 0, .bool false]) ∧ Below W.heap.size W w' := by
  have R := Lib.hid r
  clear r
  go_enter Tryz.func5, Tryz.ntmps5
  have ST := Lib.hid (Kn.nil (S := Step.Nil) (W := W))
  go_wp2_with (first
 | ((with_reducible refine Step.gate_box (t := 27) rfl ?_); refine Step.fresh (cs := hc h) (T := 27) rfl ?hr ?_; (case hr => go_simp); intro g1 w1 b hg hb; replace ST := Lib.hid (ST.out.made b hg hb); clear b hb; clear hg)
 | (go_at_call 12; (with_reducible refine (T0.out _).mono ?_); rintro e w' ⟨rfl, hb⟩; replace ST := Lib.hid (ST.out.call hb); clear hb)
 | (refine Step.storeAll ST.out.at0 rfl rfl rfl rfl rfl (size_hart _) rfl (hc_all _) ?_; intro w3 nb m; replace ST := Lib.hid (ST.out.set0 nb m); clear nb m)
 | (refine Step.loadAll ST.out.at0 rfl rfl rfl Tryz.underlying27 rfl (size_hart _) ?_)
 | (refine Step.load ST.out.at0 rfl rfl rfl pl_u64 (hv_ok _ (by decide)) ?_; simp only [hv_pc])
 | (go_at_call 13; (first | (with_reducible refine (TL.out _ (R.out.below ST.out.below)).mono ?_)); rintro e w' ⟨rfl, hb⟩; replace ST := Lib.hid (ST.out.call hb); clear hb)
 | (go_at_call 14; (with_reducible refine (TZ.out _).mono ?_); rintro e w' ⟨rfl, hb⟩; replace ST := Lib.hid (ST.out.call hb); clear hb)
 | (go_at_call 15; (with_reducible refine (TX.out _).mono ?_); rintro e w' ⟨rfl, hb⟩; replace ST := Lib.hid (ST.out.call hb); clear hb))
  all_goals (refine bodyPost_ret (results3 rfl _ _) rfl ⟨rfl, ST.out.below⟩)
set_option maxHeartbeats 4000000 in
theorem fetch_hno {W : World} {g n : Nat} {base : Int} {mem : Nat → Int} {F : Nat → Prop} {root : Int} {h h2 : Hrt} {x y v : Int} (r : Ram W g base n mem F) (T0 : Hid (∀ X, Calls Tryz.prog 12 #[.agg (hc h)] X fun e w' => e = .returned (.agg (hc h2)) ∧ Below X.heap.size X w')) (hx : 0 ≤ x ∧ x < 65536) (TL : Hid (∀ X, Ram X g base n mem F → Calls Tryz.prog 13 #[.pointer (some ⟨g, 0, none⟩), .int .u64 root, .agg (hc h2), .int .u64 h2.pc] X fun e w' => e = .returned (.tuple #[.int .u16 x, .bool true]) ∧ Below X.heap.size X w')) (TZ : Hid (∀ X, Calls Tryz.prog 14 #[.int .u16 x] X fun e w' => e = .returned (.int .i64 4) ∧ Below X.heap.size X w')) (TH : Hid (∀ X, Ram X g base n mem F → Calls Tryz.prog 13 #[.pointer (some ⟨g, 0, none⟩), .int .u64 root, .agg (hc h2), .int .u64 (IntKind.u64.wrap (h2.pc + 2))] X fun e w' => e = .returned (.tuple #[.int .u16 y, .bool false]) ∧ Below X.heap.size X w')) : Calls Tryz.prog 5 #[.pointer (some ⟨g, 0, none⟩), .int .u64 root, .agg (hc h)] W fun e w' => e = .returned (.tuple #[.int .u32 0, .int .i64 0, .bool false]) ∧ Below W.heap.size W w' := by
  have R := Lib.hid r
  clear r
  go_enter Tryz.func5, Tryz.ntmps5
  have ST := Lib.hid (Kn.nil (S := Step.Nil) (W := W))
  go_wp2_with (first
 | ((with_reducible refine Step.gate_box (t := 27) rfl ?_); refine Step.fresh (cs := hc h) (T := 27) rfl ?hr ?_; (case hr => go_simp); intro g1 w1 b hg hb; replace ST := Lib.hid (ST.out.made b hg hb); clear b hb; clear hg)
 | (go_at_call 12; (with_reducible refine (T0.out _).mono ?_); rintro e w' ⟨rfl, hb⟩; replace ST := Lib.hid (ST.out.call hb); clear hb)
 | (refine Step.storeAll ST.out.at0 rfl rfl rfl rfl rfl (size_hart _) rfl (hc_all _) ?_; intro w3 nb m; replace ST := Lib.hid (ST.out.set0 nb m); clear nb m)
 | (refine Step.loadAll ST.out.at0 rfl rfl rfl Tryz.underlying27 rfl (size_hart _) ?_)
 | (refine Step.load ST.out.at0 rfl rfl rfl pl_u64 (hv_ok _ (by decide)) ?_; simp only [hv_pc])
 | (go_at_call 13; (first | (with_reducible refine (TL.out _ (R.out.below ST.out.below)).mono ?_) | (with_reducible refine (TH.out _ (R.out.below ST.out.below)).mono ?_)); rintro e w' ⟨rfl, hb⟩; replace ST := Lib.hid (ST.out.call hb); clear hb)
 | (go_at_call 14; (with_reducible refine (TZ.out _).mono ?_); rintro e w' ⟨rfl, hb⟩; replace ST := Lib.hid (ST.out.call hb); clear hb))
  all_goals (refine bodyPost_ret (results3 rfl _ _) rfl ⟨rfl, ST.out.below⟩)
set_option maxHeartbeats 4000000 in
theorem fetch_w {W : World} {g n : Nat} {base : Int} {mem : Nat → Int} {F : Nat → Prop} {root : Int} {h h2 : Hrt} {x y v : Int} (r : Ram W g base n mem F) (T0 : Hid (∀ X, Calls Tryz.prog 12 #[.agg (hc h)] X fun e w' => e = .returned (.agg (hc h2)) ∧ Below X.heap.size X w')) (hx : 0 ≤ x ∧ x < 65536) (hy : 0 ≤ y ∧ y < 65536) (TL : Hid (∀ X, Ram X g base n mem F → Calls Tryz.prog 13 #[.pointer (some ⟨g, 0, none⟩), .int .u64 root, .agg (hc h2), .int .u64 h2.pc] X fun e w' => e = .returned (.tuple #[.int .u16 x, .bool true]) ∧ Below X.heap.size X w')) (TZ : Hid (∀ X, Calls Tryz.prog 14 #[.int .u16 x] X fun e w' => e = .returned (.int .i64 4) ∧ Below X.heap.size X w')) (TH : Hid (∀ X, Ram X g base n mem F → Calls Tryz.prog 13 #[.pointer (some ⟨g, 0, none⟩), .int .u64 root, .agg (hc h2), .int .u64 (IntKind.u64.wrap (h2.pc + 2))] X fun e w' => e = .returned (.tuple #[.int .u16 y, .bool true]) ∧ Below X.heap.size X w')) : Calls Tryz.prog 5 #[.pointer (some ⟨g, 0, none⟩), .int .u64 root, .agg (hc h)] W fun e w' => e = .returned (.tuple #[.int .u32 (y * 65536 + x), .int .i64 4, .bool true]) ∧ Below W.heap.size W w' := by
  have R := Lib.hid r
  clear r
  have e1 := or_half hy hx
  have e4 := or_half2 hy hx
  have e2 : IntKind.u32.wrap x = x := by rw [IntKind.wrap_u32]; omega
  have e3 : IntKind.u32.wrap y = y := by rw [IntKind.wrap_u32]; omega
  go_enter Tryz.func5, Tryz.ntmps5
  have ST := Lib.hid (Kn.nil (S := Step.Nil) (W := W))
  go_wp2_with (first
 | ((with_reducible refine Step.gate_box (t := 27) rfl ?_); refine Step.fresh (cs := hc h) (T := 27) rfl ?hr ?_; (case hr => go_simp); intro g1 w1 b hg hb; replace ST := Lib.hid (ST.out.made b hg hb); clear b hb; clear hg)
 | (go_at_call 12; (with_reducible refine (T0.out _).mono ?_); rintro e w' ⟨rfl, hb⟩; replace ST := Lib.hid (ST.out.call hb); clear hb)
 | (refine Step.storeAll ST.out.at0 rfl rfl rfl rfl rfl (size_hart _) rfl (hc_all _) ?_; intro w3 nb m; replace ST := Lib.hid (ST.out.set0 nb m); clear nb m)
 | (refine Step.loadAll ST.out.at0 rfl rfl rfl Tryz.underlying27 rfl (size_hart _) ?_)
 | (refine Step.load ST.out.at0 rfl rfl rfl pl_u64 (hv_ok _ (by decide)) ?_; simp only [hv_pc])
 | (go_at_call 13; (first | (with_reducible refine (TL.out _ (R.out.below ST.out.below)).mono ?_) | (with_reducible refine (TH.out _ (R.out.below ST.out.below)).mono ?_)); rintro e w' ⟨rfl, hb⟩; replace ST := Lib.hid (ST.out.call hb); clear hb)
 | (go_at_call 14; (with_reducible refine (TZ.out _).mono ?_); rintro e w' ⟨rfl, hb⟩; replace ST := Lib.hid (ST.out.call hb); clear hb))
  all_goals (refine bodyPost_ret (results3 rfl _ _) rfl ⟨rfl, ST.out.below⟩)
set_option maxHeartbeats 4000000 in
theorem rfetch_no {W : World} {g n : Nat} {base : Int} {mem : Nat → Int} {F : Nat → Prop} {root : Int} {h h2 : Hrt} {x y v : Int} (r : Ref.Mem W g base n mem F) (T0 : Hid (∀ X, Calls Tryz.prog 16 #[.agg (hc h)] X fun e w' => e = .returned (.agg (hc h2)) ∧ Below X.heap.size X w')) (TL : Hid (∀ X, Ref.Mem X g base n mem F → Calls Tryz.prog 17 #[.pointer (some ⟨g, 0, none⟩), .int .u64 root, .agg (hc h2), .int .u64 h2.pc] X fun e w' => e = .returned (.tuple #[.int .u64 x, .bool false]) ∧ Below X.heap.size X w')) : Calls Tryz.prog 6 #[.pointer (some ⟨g, 0, none⟩), .int .u64 root, .agg (hc h)] W fun e w' => e = .returned (.tuple #[.int .u32 0, .int .i64 0, .bool false]) ∧ Below W.heap.size W w' := by
  have R := Lib.hid r
  clear r
  go_enter Tryz.func6, Tryz.ntmps6
  have ST := Lib.hid (Kn.nil (S := Step.Nil) (W := W))
  go_wp2_with (first
 | ((with_reducible refine Step.gate_box (t := 27) rfl ?_); refine Step.fresh (cs := hc h) (T := 27) rfl ?hr ?_; (case hr => go_simp); intro g1 w1 b hg hb; replace ST := Lib.hid (ST.out.made b hg hb); clear b hb; clear hg)
 | (go_at_call 16; (with_reducible refine (T0.out _).mono ?_); rintro e w' ⟨rfl, hb⟩; replace ST := Lib.hid (ST.out.call hb); clear hb)
 | (refine Step.storeAll ST.out.at0 rfl rfl rfl rfl rfl (size_hart _) rfl (hc_all _) ?_; intro w3 nb m; replace ST := Lib.hid (ST.out.set0 nb m); clear nb m)
 | (refine Step.loadAll ST.out.at0 rfl rfl rfl Tryz.underlying27 rfl (size_hart _) ?_)
 | (refine Step.load ST.out.at0 rfl rfl rfl pl_u64 (hv_ok _ (by decide)) ?_; simp only [hv_pc])
 | (go_at_call 17; (first | (with_reducible refine (TL.out _ (R.out.below ST.out.below)).mono ?_)); rintro e w' ⟨rfl, hb⟩; replace ST := Lib.hid (ST.out.call hb); clear hb))
  all_goals (refine bodyPost_ret (results3 rfl _ _) rfl ⟨rfl, ST.out.below⟩)
set_option maxHeartbeats 4000000 in
theorem rfetch_c {W : World} {g n : Nat} {base : Int} {mem : Nat → Int} {F : Nat → Prop} {root : Int} {h h2 : Hrt} {x y v : Int} (r : Ref.Mem W g base n mem F) (T0 : Hid (∀ X, Calls Tryz.prog 16 #[.agg (hc h)] X fun e w' => e = .returned (.agg (hc h2)) ∧ Below X.heap.size X w')) (hx : 0 ≤ x ∧ x < 65536) (TL : Hid (∀ X, Ref.Mem X g base n mem F → Calls Tryz.prog 17 #[.pointer (some ⟨g, 0, none⟩), .int .u64 root, .agg (hc h2), .int .u64 h2.pc] X fun e w' => e = .returned (.tuple #[.int .u64 x, .bool true]) ∧ Below X.heap.size X w')) (TZ : Hid (∀ X, Calls Tryz.prog 18 #[.int .u16 x] X fun e w' => e = .returned (.int .i64 2) ∧ Below X.heap.size X w')) (TX : Hid (∀ X, Calls Tryz.prog 19 #[.int .u16 x] X fun e w' => e = .returned (.tuple #[.int .u32 v, .bool true]) ∧ Below X.heap.size X w')) : Calls Tryz.prog 6 #[.pointer (some ⟨g, 0, none⟩), .int .u64 root, .agg (hc h)] W fun e w' => e = .returned (.tuple #[.int .u32 v, .int .i64 2, .bool true]) ∧ Below W.heap.size W w' := by
  have R := Lib.hid r
  clear r
  have e0 : IntKind.u16.wrap x = x := by rw [IntKind.wrap_u16]; omega
  go_enter Tryz.func6, Tryz.ntmps6
  have ST := Lib.hid (Kn.nil (S := Step.Nil) (W := W))
  go_wp2_with (first
 | ((with_reducible refine Step.gate_box (t := 27) rfl ?_); refine Step.fresh (cs := hc h) (T := 27) rfl ?hr ?_; (case hr => go_simp); intro g1 w1 b hg hb; replace ST := Lib.hid (ST.out.made b hg hb); clear b hb; clear hg)
 | (go_at_call 16; (with_reducible refine (T0.out _).mono ?_); rintro e w' ⟨rfl, hb⟩; replace ST := Lib.hid (ST.out.call hb); clear hb)
 | (refine Step.storeAll ST.out.at0 rfl rfl rfl rfl rfl (size_hart _) rfl (hc_all _) ?_; intro w3 nb m; replace ST := Lib.hid (ST.out.set0 nb m); clear nb m)
 | (refine Step.loadAll ST.out.at0 rfl rfl rfl Tryz.underlying27 rfl (size_hart _) ?_)
 | (refine Step.load ST.out.at0 rfl rfl rfl pl_u64 (hv_ok _ (by decide)) ?_; simp only [hv_pc])
 | (go_at_call 17; (first | (with_reducible refine (TL.out _ (R.out.below ST.out.below)).mono ?_)); rintro e w' ⟨rfl, hb⟩; replace ST := Lib.hid (ST.out.call hb); clear hb)
 | (go_at_call 18; (with_reducible refine (TZ.out _).mono ?_); rintro e w' ⟨rfl, hb⟩; replace ST := Lib.hid (ST.out.call hb); clear hb)
 | (go_at_call 19; (with_reducible refine (TX.out _).mono ?_); rintro e w' ⟨rfl, hb⟩; replace ST := Lib.hid (ST.out.call hb); clear hb))
  all_goals (refine bodyPost_ret (results3 rfl _ _) rfl ⟨rfl, ST.out.below⟩)
set_option maxHeartbeats 4000000 in
theorem rfetch_cno {W : World} {g n : Nat} {base : Int} {mem : Nat → Int} {F : Nat → Prop} {root : Int} {h h2 : Hrt} {x y v : Int} (r : Ref.Mem W g base n mem F) (T0 : Hid (∀ X, Calls Tryz.prog 16 #[.agg (hc h)] X fun e w' => e = .returned (.agg (hc h2)) ∧ Below X.heap.size X w')) (hx : 0 ≤ x ∧ x < 65536) (TL : Hid (∀ X, Ref.Mem X g base n mem F → Calls Tryz.prog 17 #[.pointer (some ⟨g, 0, none⟩), .int .u64 root, .agg (hc h2), .int .u64 h2.pc] X fun e w' => e = .returned (.tuple #[.int .u64 x, .bool true]) ∧ Below X.heap.size X w')) (TZ : Hid (∀ X, Calls Tryz.prog 18 #[.int .u16 x] X fun e w' => e = .returned (.int .i64 2) ∧ Below X.heap.size X w')) (TX : Hid (∀ X, Calls Tryz.prog 19 #[.int .u16 x] X fun e w' => e = .returned (.tuple #[.int .u32 v, .bool false]) ∧ Below X.heap.size X w')) : Calls Tryz.prog 6 #[.pointer (some ⟨g, 0, none⟩), .int .u64 root, .agg (hc h)] W fun e w' => e = .returned (.tuple #[.int .u32 0, .int .i64 0, .bool false]) ∧ Below W.heap.size W w' := by
  have R := Lib.hid r
  clear r
  have e0 : IntKind.u16.wrap x = x := by rw [IntKind.wrap_u16]; omega
  go_enter Tryz.func6, Tryz.ntmps6
  have ST := Lib.hid (Kn.nil (S := Step.Nil) (W := W))
  go_wp2_with (first
 | ((with_reducible refine Step.gate_box (t := 27) rfl ?_); refine Step.fresh (cs := hc h) (T := 27) rfl ?hr ?_; (case hr => go_simp); intro g1 w1 b hg hb; replace ST := Lib.hid (ST.out.made b hg hb); clear b hb; clear hg)
 | (go_at_call 16; (with_reducible refine (T0.out _).mono ?_); rintro e w' ⟨rfl, hb⟩; replace ST := Lib.hid (ST.out.call hb); clear hb)
 | (refine Step.storeAll ST.out.at0 rfl rfl rfl rfl rfl (size_hart _) rfl (hc_all _) ?_; intro w3 nb m; replace ST := Lib.hid (ST.out.set0 nb m); clear nb m)
 | (refine Step.loadAll ST.out.at0 rfl rfl rfl Tryz.underlying27 rfl (size_hart _) ?_)
 | (refine Step.load ST.out.at0 rfl rfl rfl pl_u64 (hv_ok _ (by decide)) ?_; simp only [hv_pc])
 | (go_at_call 17; (first | (with_reducible refine (TL.out _ (R.out.below ST.out.below)).mono ?_)); rintro e w' ⟨rfl, hb⟩; replace ST := Lib.hid (ST.out.call hb); clear hb)
 | (go_at_call 18; (with_reducible refine (TZ.out _).mono ?_); rintro e w' ⟨rfl, hb⟩; replace ST := Lib.hid (ST.out.call hb); clear hb)
 | (go_at_call 19; (with_reducible refine (TX.out _).mono ?_); rintro e w' ⟨rfl, hb⟩; replace ST := Lib.hid (ST.out.call hb); clear hb))
  all_goals (refine bodyPost_ret (results3 rfl _ _) rfl ⟨rfl, ST.out.below⟩)
set_option maxHeartbeats 4000000 in
theorem rfetch_hno {W : World} {g n : Nat} {base : Int} {mem : Nat → Int} {F : Nat → Prop} {root : Int} {h h2 : Hrt} {x y v : Int} (r : Ref.Mem W g base n mem F) (T0 : Hid (∀ X, Calls Tryz.prog 16 #[.agg (hc h)] X fun e w' => e = .returned (.agg (hc h2)) ∧ Below X.heap.size X w')) (hx : 0 ≤ x ∧ x < 65536) (TL : Hid (∀ X, Ref.Mem X g base n mem F → Calls Tryz.prog 17 #[.pointer (some ⟨g, 0, none⟩), .int .u64 root, .agg (hc h2), .int .u64 h2.pc] X fun e w' => e = .returned (.tuple #[.int .u64 x, .bool true]) ∧ Below X.heap.size X w')) (TZ : Hid (∀ X, Calls Tryz.prog 18 #[.int .u16 x] X fun e w' => e = .returned (.int .i64 4) ∧ Below X.heap.size X w')) (TH : Hid (∀ X, Ref.Mem X g base n mem F → Calls Tryz.prog 17 #[.pointer (some ⟨g, 0, none⟩), .int .u64 root, .agg (hc h2), .int .u64 (IntKind.u64.wrap (h2.pc + 2))] X fun e w' => e = .returned (.tuple #[.int .u64 y, .bool false]) ∧ Below X.heap.size X w')) : Calls Tryz.prog 6 #[.pointer (some ⟨g, 0, none⟩), .int .u64 root, .agg (hc h)] W fun e w' => e = .returned (.tuple #[.int .u32 0, .int .i64 0, .bool false]) ∧ Below W.heap.size W w' := by
  have R := Lib.hid r
  clear r
  have e0 : IntKind.u16.wrap x = x := by rw [IntKind.wrap_u16]; omega
  go_enter Tryz.func6, Tryz.ntmps6
  have ST := Lib.hid (Kn.nil (S := Step.Nil) (W := W))
  go_wp2_with (first
 | ((with_reducible refine Step.gate_box (t := 27) rfl ?_); refine Step.fresh (cs := hc h) (T := 27) rfl ?hr ?_; (case hr => go_simp); intro g1 w1 b hg hb; replace ST := Lib.hid (ST.out.made b hg hb); clear b hb; clear hg)
 | (go_at_call 16; (with_reducible refine (T0.out _).mono ?_); rintro e w' ⟨rfl, hb⟩; replace ST := Lib.hid (ST.out.call hb); clear hb)
 | (refine Step.storeAll ST.out.at0 rfl rfl rfl rfl rfl (size_hart _) rfl (hc_all _) ?_; intro w3 nb m; replace ST := Lib.hid (ST.out.set0 nb m); clear nb m)
 | (refine Step.loadAll ST.out.at0 rfl rfl rfl Tryz.underlying27 rfl (size_hart _) ?_)
 | (refine Step.load ST.out.at0 rfl rfl rfl pl_u64 (hv_ok _ (by decide)) ?_; simp only [hv_pc])
 | (go_at_call 17; (first | (with_reducible refine (TL.out _ (R.out.below ST.out.below)).mono ?_) | (with_reducible refine (TH.out _ (R.out.below ST.out.below)).mono ?_)); rintro e w' ⟨rfl, hb⟩; replace ST := Lib.hid (ST.out.call hb); clear hb)
 | (go_at_call 18; (with_reducible refine (TZ.out _).mono ?_); rintro e w' ⟨rfl, hb⟩; replace ST := Lib.hid (ST.out.call hb); clear hb))
  all_goals (refine bodyPost_ret (results3 rfl _ _) rfl ⟨rfl, ST.out.below⟩)
set_option maxHeartbeats 4000000 in
theorem rfetch_w {W : World} {g n : Nat} {base : Int} {mem : Nat → Int} {F : Nat → Prop} {root : Int} {h h2 : Hrt} {x y v : Int} (r : Ref.Mem W g base n mem F) (T0 : Hid (∀ X, Calls Tryz.prog 16 #[.agg (hc h)] X fun e w' => e = .returned (.agg (hc h2)) ∧ Below X.heap.size X w')) (hx : 0 ≤ x ∧ x < 65536) (hy : 0 ≤ y ∧ y < 65536) (TL : Hid (∀ X, Ref.Mem X g base n mem F → Calls Tryz.prog 17 #[.pointer (some ⟨g, 0, none⟩), .int .u64 root, .agg (hc h2), .int .u64 h2.pc] X fun e w' => e = .returned (.tuple #[.int .u64 x, .bool true]) ∧ Below X.heap.size X w')) (TZ : Hid (∀ X, Calls Tryz.prog 18 #[.int .u16 x] X fun e w' => e = .returned (.int .i64 4) ∧ Below X.heap.size X w')) (TH : Hid (∀ X, Ref.Mem X g base n mem F → Calls Tryz.prog 17 #[.pointer (some ⟨g, 0, none⟩), .int .u64 root, .agg (hc h2), .int .u64 (IntKind.u64.wrap (h2.pc + 2))] X fun e w' => e = .returned (.tuple #[.int .u64 y, .bool true]) ∧ Below X.heap.size X w')) : Calls Tryz.prog 6 #[.pointer (some ⟨g, 0, none⟩), .int .u64 root, .agg (hc h)] W fun e w' => e = .returned (.tuple #[.int .u32 (y * 65536 + x), .int .i64 4, .bool true]) ∧ Below W.heap.size W w' := by
  have R := Lib.hid r
  clear r
  have e0 : IntKind.u16.wrap x = x := by rw [IntKind.wrap_u16]; omega
  rw [Int.add_comm (y * 65536) x]
  go_enter Tryz.func6, Tryz.ntmps6
  have ST := Lib.hid (Kn.nil (S := Step.Nil) (W := W))
  go_wp2_with (first
 | ((with_reducible refine Step.gate_box (t := 27) rfl ?_); refine Step.fresh (cs := hc h) (T := 27) rfl ?hr ?_; (case hr => go_simp); intro g1 w1 b hg hb; replace ST := Lib.hid (ST.out.made b hg hb); clear b hb; clear hg)
 | (go_at_call 16; (with_reducible refine (T0.out _).mono ?_); rintro e w' ⟨rfl, hb⟩; replace ST := Lib.hid (ST.out.call hb); clear hb)
 | (refine Step.storeAll ST.out.at0 rfl rfl rfl rfl rfl (size_hart _) rfl (hc_all _) ?_; intro w3 nb m; replace ST := Lib.hid (ST.out.set0 nb m); clear nb m)
 | (refine Step.loadAll ST.out.at0 rfl rfl rfl Tryz.underlying27 rfl (size_hart _) ?_)
 | (refine Step.load ST.out.at0 rfl rfl rfl pl_u64 (hv_ok _ (by decide)) ?_; simp only [hv_pc])
 | (go_at_call 17; (first | (with_reducible refine (TL.out _ (R.out.below ST.out.below)).mono ?_) | (with_reducible refine (TH.out _ (R.out.below ST.out.below)).mono ?_)); rintro e w' ⟨rfl, hb⟩; replace ST := Lib.hid (ST.out.call hb); clear hb)
 | (go_at_call 18; (with_reducible refine (TZ.out _).mono ?_); rintro e w' ⟨rfl, hb⟩; replace ST := Lib.hid (ST.out.call hb); clear hb))
  all_goals (refine bodyPost_ret (results3 rfl _ _) rfl ⟨rfl, ST.out.below⟩)
def fetT (p : Int × Int × Bool) : Value := .tuple #[.int .u32 p.1, .int .i64 p.2.1, .bool p.2.2]
theorem fetch_any {W : World} {g n : Nat} {base : Int} {mem : Nat → Int} {F : Nat → Prop} (r : Ram W g base n mem F) (root : Int) (hr : U64 root) (h : Hrt) (hf : Fit h) : Calls Tryz.prog 5 #[.pointer (some ⟨g, 0, none⟩), .int .u64 root, .agg (hc h)] W fun e w' => e = .returned (fetT (fetV base n mem root (ord h))) ∧ Below W.heap.size W w' := by
  have T0 := Lib.hid (morder_any h hf)
  have hf2 := ord_fit hf
  generalize ord h = h2 at *
  have hl := halfV_lt (base := base) (fun i hi => r.byte hi) root h2 h2.pc
  have hy := halfV_lt (base := base) (fun i hi => r.byte hi) root h2 (IntKind.u64.wrap (h2.pc + 2))
  have TL := Lib.hid (fun X (q : Ram X g base n mem F) => half_any q hf2 hr hf2.pc)
  have TH := Lib.hid (fun X (q : Ram X g base n mem F) => half_any q hf2 hr (wrap_w (h2.pc + 2)))
  unfold fetV
  generalize halfV base n mem root h2 h2.pc = l at *
  generalize halfV base n mem root h2 (IntKind.u64.wrap (h2.pc + 2)) = u at *
  obtain ⟨x, b1⟩ := l
  obtain ⟨y, b2⟩ := u
  dsimp only at hl hy TL TH ⊢
  cases b1 with
  | false => simp only [if_true]; exact fetch_no (v := 0) (y := 0) r T0 TL
  | true =>
    simp only [if_true, Bool.true_eq_false, if_false] at TL ⊢
    by_cases h3 : x % 4 = 3
    · have TZ := Lib.hid (size_any x hl)
      rw [if_pos h3] at TZ ⊢
      cases b2 with
      | false => simp only [if_true]; exact fetch_hno (v := 0) r T0 hl TL TZ TH
      | true => simp only [if_true, Bool.true_eq_false, if_false] at TH ⊢; exact fetch_w (v := 0) r T0 hl hy TL TZ TH
    · have TZ := Lib.hid (size_any x hl)
      rw [if_neg h3] at TZ ⊢
      have hx : H16 x := ⟨hl⟩
      have TX := Lib.hid (fun w => (Expand_any x hx w).mono fun e w' (h : (∃ v, Xp (expD x) v ∧ e = .returned v) ∧ Below w.heap.size w w') => (show e = .returned (xV (expD x)) ∧ Below w.heap.size w w' from ⟨by obtain ⟨v, hx, he⟩ := h.1; rw [he, Xp_xV hx], h.2⟩))
      rw [exV_xV] at TX
      generalize exV (expD x) = q at *
      obtain ⟨v, ok⟩ := q
      dsimp only at TX ⊢
      cases ok with
      | false => simp only [if_true]; exact fetch_cno (y := 0) r T0 hl TL TZ TX
      | true => simp only [Bool.true_eq_false, if_false]; exact fetch_c (y := 0) r T0 hl TL TZ TX
theorem rfetch_any {W : World} {g n : Nat} {base : Int} {mem : Nat → Int} {F : Nat → Prop} (r : Ref.Mem W g base n mem F) (root : Int) (hr : U64 root) (h : Hrt) (hf : Fit h) : Calls Tryz.prog 6 #[.pointer (some ⟨g, 0, none⟩), .int .u64 root, .agg (hc h)] W fun e w' => e = .returned (fetT (fetV base n mem root (ord h))) ∧ Below W.heap.size W w' := by
  have T0 := Lib.hid (rOrder_any h hf)
  have hf2 := ord_fit hf
  generalize ord h = h2 at *
  have hl := halfV_lt (base := base) (fun i hi => r.byte hi) root h2 h2.pc
  have hy := halfV_lt (base := base) (fun i hi => r.byte hi) root h2 (IntKind.u64.wrap (h2.pc + 2))
  have TL := Lib.hid (fun X (q : Ref.Mem X g base n mem F) => two_any q hf2 hr hf2.pc)
  have TH := Lib.hid (fun X (q : Ref.Mem X g base n mem F) => two_any q hf2 hr (wrap_w (h2.pc + 2)))
  unfold fetV
  generalize halfV base n mem root h2 h2.pc = l at *
  generalize halfV base n mem root h2 (IntKind.u64.wrap (h2.pc + 2)) = u at *
  obtain ⟨x, b1⟩ := l
  obtain ⟨y, b2⟩ := u
  dsimp only at hl hy TL TH ⊢
  cases b1 with
  | false => simp only [if_true]; exact rfetch_no (v := 0) (y := 0) r T0 TL
  | true =>
    simp only [if_true, Bool.true_eq_false, if_false] at TL ⊢
    by_cases h3 : x % 4 = 3
    · have TZ := Lib.hid (rsize_any x hl)
      rw [if_pos h3] at TZ ⊢
      cases b2 with
      | false => simp only [if_true]; exact rfetch_hno (v := 0) r T0 hl TL TZ TH
      | true => simp only [if_true, Bool.true_eq_false, if_false] at TH ⊢; exact rfetch_w (v := 0) r T0 hl hy TL TZ TH
    · have TZ := Lib.hid (rsize_any x hl)
      rw [if_neg h3] at TZ ⊢
      have hx : H16 x := ⟨hl⟩
      have TX := Lib.hid (fun w => rExpand_any x hx w)
      rw [exV_xV] at TX
      generalize exV (expD x) = q at *
      obtain ⟨v, ok⟩ := q
      dsimp only at TX ⊢
      cases ok with
      | false => simp only [if_true]; exact rfetch_cno (y := 0) r T0 hl TL TZ TX
      | true => simp only [Bool.true_eq_false, if_false]; exact rfetch_c (y := 0) r T0 hl TL TZ TX
end Go.Proofs.YtchpnbckgofiaaaGreat.Hart
end
