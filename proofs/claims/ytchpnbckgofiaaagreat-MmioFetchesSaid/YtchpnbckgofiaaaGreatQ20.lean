/- Parts of the walks and laws for the claim: DecS; no conditions beyond the theorems' own. -/
import Derived.Test.YtchpnbckgofiaaaGreatQ13
import Derived.Test.YtchpnbckgofiaaaGreatQ19
section
namespace Go.Proofs.YtchpnbckgofiaaaGreat.Enc
open Go Go.RowKit Go.Proofs.YtchpnbckgofiaaaGreat.Step
set_option linter.unusedVariables false
set_option linter.unusedSimpArgs false
set_option maxRecDepth 100000
set_option maxHeartbeats 8000000 in
theorem rdec_55 (a : Int) (ha : W32 a) (hop : fd a 6 0 = 55) (w : World) : Calls Tryz.prog 100 #[.int .u32 a] w fun e w' => e = .returned (told (decOp 55 a)) ∧ Below w.heap.size w w' := by
  have T0 := Lib.hid (fun w => calls_below (rbits_any a 14 12 14 12 ha rfl rfl (by decide) (by decide) w))
  have T1 := Lib.hid (fun w => calls_below (rbits_any a 31 25 31 25 ha rfl rfl (by decide) (by decide) w))
  have T2 := Lib.hid (fun w => calls_below (rbits_any a 11 7 11 7 ha rfl rfl (by decide) (by decide) w))
  have T3 := Lib.hid (fun w => calls_below (rbits_any a 19 15 19 15 ha rfl rfl (by decide) (by decide) w))
  have T4 := Lib.hid (fun w => calls_below (rbits_any a 24 20 24 20 ha rfl rfl (by decide) (by decide) w))
  have T5 := Lib.hid (fun w => calls_below (rbits_any a 31 26 31 26 ha rfl rfl (by decide) (by decide) w))
  have T6 := Lib.hid (fun w => calls_below (rbits_any a 25 20 25 20 ha rfl rfl (by decide) (by decide) w))
  have TO := Lib.hid (fun w => calls_below (rbits_any a 6 0 6 0 ha rfl rfl (by decide) (by decide) w))
  have HX := Lib.hid (fd_lit (a := a) (h := 14) (l := 12) (n := 8) rfl)
  rw [hop] at TO
  clear hop
  have TM := Lib.hid (fun w => calls_below (ru_any a ha w))
  rw [show decOp 55 a = (some ⟨1, 0, (fd a 11 7), 0, 0, (immU a), 0, false⟩ : Option Ins) from by simp [decOp]]
  generalize immU a = m at *
  generalize fd a 14 12 = x at *
  generalize fd a 31 25 = s at *
  generalize fd a 11 7 = rd at *
  generalize fd a 19 15 = rs1 at *
  generalize fd a 24 20 = rs2 at *
  generalize fd a 31 26 = hi at *
  generalize fd a 25 20 = sh at *
  go_enter Tryz.func100, Tryz.ntmps100
  go_wp2_with (first
 | (go_at_call 65; (with_reducible refine (T0.out _).mono ?_); rintro e w' ⟨rfl, hb⟩; replace ST := Lib.hid (ST.out.call hb); clear hb)
 | (go_at_call 65; (with_reducible refine (T1.out _).mono ?_); rintro e w' ⟨rfl, hb⟩; replace ST := Lib.hid (ST.out.call hb); clear hb)
 | (go_at_call 65; (with_reducible refine (T2.out _).mono ?_); rintro e w' ⟨rfl, hb⟩; replace ST := Lib.hid (ST.out.call hb); clear hb)
 | (go_at_call 65; (with_reducible refine (T3.out _).mono ?_); rintro e w' ⟨rfl, hb⟩; replace ST := Lib.hid (ST.out.call hb); clear hb)
 | (go_at_call 65; (with_reducible refine (T4.out _).mono ?_); rintro e w' ⟨rfl, hb⟩; replace ST := Lib.hid (ST.out.call hb); clear hb)
 | (go_at_call 65; (with_reducible refine (TO.out _).mono ?_); rintro e w' ⟨rfl, hb⟩; replace ST := Lib.hid (ST.out.call hb); clear hb)
 | (go_at_call 119; (with_reducible refine (TM.out _).mono ?_); rintro e w' ⟨rfl, hb⟩; replace ST := Lib.hid (ST.out.call hb); clear hb)
 | (refine Step.freshAlloc rfl rfl (alloc_agg zero_inst) ?_; intro g2 w2 b hg hb; replace ST := Lib.hid (ST.out.more b hg hb); clear b hg hb)
 | (refine Step.freshAlloc rfl rfl (alloc_agg zero_inst) ?_; intro g1 w1 b hg hb; have ST := Lib.hid (S1.made b hg hb); clear b hg hb)
 | (refine Step.storeAll ST.out.one rfl rfl rfl rfl rfl size_inst rfl rfl ?_; intro w3 nb m; replace ST := Lib.hid (ST.out.set1 nb m); clear nb m)
 | (refine Step.storeAll ST.out.two rfl rfl rfl rfl rfl size_inst rfl rfl ?_; intro w3 nb m; replace ST := Lib.hid (ST.out.set2 nb m); clear nb m))
  refine bodyPost_ret (results_row_tmp rfl _ _ g1 _ _ _ rfl ST.out.one Tryz.underlying85 rfl size_inst) rfl ⟨rfl, ST.out.below⟩
set_option maxHeartbeats 8000000 in
theorem rdec_111 (a : Int) (ha : W32 a) (hop : fd a 6 0 = 111) (w : World) : Calls Tryz.prog 100 #[.int .u32 a] w fun e w' => e = .returned (told (decOp 111 a)) ∧ Below w.heap.size w w' := by
  have T0 := Lib.hid (fun w => calls_below (rbits_any a 14 12 14 12 ha rfl rfl (by decide) (by decide) w))
  have T1 := Lib.hid (fun w => calls_below (rbits_any a 31 25 31 25 ha rfl rfl (by decide) (by decide) w))
  have T2 := Lib.hid (fun w => calls_below (rbits_any a 11 7 11 7 ha rfl rfl (by decide) (by decide) w))
  have T3 := Lib.hid (fun w => calls_below (rbits_any a 19 15 19 15 ha rfl rfl (by decide) (by decide) w))
  have T4 := Lib.hid (fun w => calls_below (rbits_any a 24 20 24 20 ha rfl rfl (by decide) (by decide) w))
  have T5 := Lib.hid (fun w => calls_below (rbits_any a 31 26 31 26 ha rfl rfl (by decide) (by decide) w))
  have T6 := Lib.hid (fun w => calls_below (rbits_any a 25 20 25 20 ha rfl rfl (by decide) (by decide) w))
  have TO := Lib.hid (fun w => calls_below (rbits_any a 6 0 6 0 ha rfl rfl (by decide) (by decide) w))
  have HX := Lib.hid (fd_lit (a := a) (h := 14) (l := 12) (n := 8) rfl)
  rw [hop] at TO
  clear hop
  have TM := Lib.hid (fun w => calls_below (rj_any a ha w))
  rw [show decOp 111 a = (some ⟨3, 0, (fd a 11 7), 0, 0, (immJ a), 0, false⟩ : Option Ins) from by simp [decOp]]
  generalize immJ a = m at *
  generalize fd a 14 12 = x at *
  generalize fd a 31 25 = s at *
  generalize fd a 11 7 = rd at *
  generalize fd a 19 15 = rs1 at *
  generalize fd a 24 20 = rs2 at *
  generalize fd a 31 26 = hi at *
  generalize fd a 25 20 = sh at *
  go_enter Tryz.func100, Tryz.ntmps100
  go_wp2_with (first
 | (go_at_call 65; (with_reducible refine (T0.out _).mono ?_); rintro e w' ⟨rfl, hb⟩; replace ST := Lib.hid (ST.out.call hb); clear hb)
 | (go_at_call 65; (with_reducible refine (T1.out _).mono ?_); rintro e w' ⟨rfl, hb⟩; replace ST := Lib.hid (ST.out.call hb); clear hb)
 | (go_at_call 65; (with_reducible refine (T2.out _).mono ?_); rintro e w' ⟨rfl, hb⟩; replace ST := Lib.hid (ST.out.call hb); clear hb)
 | (go_at_call 65; (with_reducible refine (T3.out _).mono ?_); rintro e w' ⟨rfl, hb⟩; replace ST := Lib.hid (ST.out.call hb); clear hb)
 | (go_at_call 65; (with_reducible refine (T4.out _).mono ?_); rintro e w' ⟨rfl, hb⟩; replace ST := Lib.hid (ST.out.call hb); clear hb)
 | (go_at_call 65; (with_reducible refine (TO.out _).mono ?_); rintro e w' ⟨rfl, hb⟩; replace ST := Lib.hid (ST.out.call hb); clear hb)
 | (go_at_call 120; (with_reducible refine (TM.out _).mono ?_); rintro e w' ⟨rfl, hb⟩; replace ST := Lib.hid (ST.out.call hb); clear hb)
 | (refine Step.freshAlloc rfl rfl (alloc_agg zero_inst) ?_; intro g2 w2 b hg hb; replace ST := Lib.hid (ST.out.more b hg hb); clear b hg hb)
 | (refine Step.freshAlloc rfl rfl (alloc_agg zero_inst) ?_; intro g1 w1 b hg hb; have ST := Lib.hid (S1.made b hg hb); clear b hg hb)
 | (refine Step.storeAll ST.out.one rfl rfl rfl rfl rfl size_inst rfl rfl ?_; intro w3 nb m; replace ST := Lib.hid (ST.out.set1 nb m); clear nb m)
 | (refine Step.storeAll ST.out.two rfl rfl rfl rfl rfl size_inst rfl rfl ?_; intro w3 nb m; replace ST := Lib.hid (ST.out.set2 nb m); clear nb m))
  refine bodyPost_ret (results_row_tmp rfl _ _ g1 _ _ _ rfl ST.out.one Tryz.underlying85 rfl size_inst) rfl ⟨rfl, ST.out.below⟩
set_option maxHeartbeats 8000000 in
theorem rdec_103 (a : Int) (ha : W32 a) (hop : fd a 6 0 = 103) (w : World) : Calls Tryz.prog 100 #[.int .u32 a] w fun e w' => e = .returned (told (decOp 103 a)) ∧ Below w.heap.size w w' := by
  have T0 := Lib.hid (fun w => calls_below (rbits_any a 14 12 14 12 ha rfl rfl (by decide) (by decide) w))
  have T1 := Lib.hid (fun w => calls_below (rbits_any a 31 25 31 25 ha rfl rfl (by decide) (by decide) w))
  have T2 := Lib.hid (fun w => calls_below (rbits_any a 11 7 11 7 ha rfl rfl (by decide) (by decide) w))
  have T3 := Lib.hid (fun w => calls_below (rbits_any a 19 15 19 15 ha rfl rfl (by decide) (by decide) w))
  have T4 := Lib.hid (fun w => calls_below (rbits_any a 24 20 24 20 ha rfl rfl (by decide) (by decide) w))
  have T5 := Lib.hid (fun w => calls_below (rbits_any a 31 26 31 26 ha rfl rfl (by decide) (by decide) w))
  have T6 := Lib.hid (fun w => calls_below (rbits_any a 25 20 25 20 ha rfl rfl (by decide) (by decide) w))
  have TO := Lib.hid (fun w => calls_below (rbits_any a 6 0 6 0 ha rfl rfl (by decide) (by decide) w))
  have HX := Lib.hid (fd_lit (a := a) (h := 14) (l := 12) (n := 8) rfl)
  rw [hop] at TO
  clear hop
  have TM := Lib.hid (fun w => calls_below (ri_any a ha w))
  rw [show decOp 103 a = (if (fd a 14 12) = 0 then some ⟨4, 0, (fd a 11 7), (fd a 19 15), 0, (immI a), 0, false⟩ else none : Option Ins) from by simp [decOp]]
  generalize immI a = m at *
  generalize fd a 14 12 = x at *
  generalize fd a 31 25 = s at *
  generalize fd a 11 7 = rd at *
  generalize fd a 19 15 = rs1 at *
  generalize fd a 24 20 = rs2 at *
  generalize fd a 31 26 = hi at *
  generalize fd a 25 20 = sh at *
  obtain ⟨E_, hEq⟩ : ∃ E_, (if x = 0 then some ⟨4, 0, rd, rs1, 0, m, 0, false⟩ else none : Option Ins) = E_ := ⟨_, rfl⟩
  rw [hEq]
  have hd : (x = 0 ∧ E_ = some ⟨4, 0, rd, rs1, 0, m, 0, false⟩) ∨ (¬ (x = 0) ∧ E_ = none) := by
    by_cases c0 : x = 0
    · exact Or.inl ⟨c0, by rw [← hEq]; simp [c0]⟩
    · exact Or.inr (⟨c0, by rw [← hEq]; simp [c0]⟩)
  clear hEq
  rcases hd with ⟨c0, hE⟩ | ⟨c0, hE⟩
  all_goals subst hE
  all_goals (
    go_enter Tryz.func100, Tryz.ntmps100
    go_wp2_with (first
 | (go_at_call 65; (with_reducible refine (T0.out _).mono ?_); rintro e w' ⟨rfl, hb⟩; replace ST := Lib.hid (ST.out.call hb); clear hb)
 | (go_at_call 65; (with_reducible refine (T1.out _).mono ?_); rintro e w' ⟨rfl, hb⟩; replace ST := Lib.hid (ST.out.call hb); clear hb)
 | (go_at_call 65; (with_reducible refine (T2.out _).mono ?_); rintro e w' ⟨rfl, hb⟩; replace ST := Lib.hid (ST.out.call hb); clear hb)
 | (go_at_call 65; (with_reducible refine (T3.out _).mono ?_); rintro e w' ⟨rfl, hb⟩; replace ST := Lib.hid (ST.out.call hb); clear hb)
 | (go_at_call 65; (with_reducible refine (T4.out _).mono ?_); rintro e w' ⟨rfl, hb⟩; replace ST := Lib.hid (ST.out.call hb); clear hb)
 | (go_at_call 65; (with_reducible refine (TO.out _).mono ?_); rintro e w' ⟨rfl, hb⟩; replace ST := Lib.hid (ST.out.call hb); clear hb)
 | (go_at_call 121; (with_reducible refine (TM.out _).mono ?_); rintro e w' ⟨rfl, hb⟩; replace ST := Lib.hid (ST.out.call hb); clear hb)
 | (refine Step.freshAlloc rfl rfl (alloc_agg zero_inst) ?_; intro g2 w2 b hg hb; replace ST := Lib.hid (ST.out.more b hg hb); clear b hg hb)
 | (refine Step.freshAlloc rfl rfl (alloc_agg zero_inst) ?_; intro g1 w1 b hg hb; have ST := Lib.hid (S1.made b hg hb); clear b hg hb)
 | (refine Step.storeAll ST.out.one rfl rfl rfl rfl rfl size_inst rfl rfl ?_; intro w3 nb m; replace ST := Lib.hid (ST.out.set1 nb m); clear nb m)
 | (refine Step.store ST.out.two rfl rfl rfl rfl rfl pl_int rfl rfl ?_; intro w3 nb m; replace ST := Lib.hid (ST.out.set2 nb m); clear nb m)
 | (refine Step.storeAll ST.out.two rfl rfl rfl rfl rfl size_inst rfl rfl ?_; intro w3 nb m; replace ST := Lib.hid (ST.out.set2 nb m); clear nb m)
 | (refine Step.loadAll ST.out.two rfl rfl rfl Tryz.underlying85 rfl size_inst ?_))
    refine bodyPost_ret (results_row_tmp rfl _ _ g1 _ _ _ rfl ST.out.one Tryz.underlying85 rfl size_inst) rfl ⟨rfl, ST.out.below⟩)
set_option maxHeartbeats 8000000 in
theorem rdec_99 (a : Int) (ha : W32 a) (hop : fd a 6 0 = 99) (w : World) : Calls Tryz.prog 100 #[.int .u32 a] w fun e w' => e = .returned (told (decOp 99 a)) ∧ Below w.heap.size w w' := by
  have T0 := Lib.hid (fun w => calls_below (rbits_any a 14 12 14 12 ha rfl rfl (by decide) (by decide) w))
  have T1 := Lib.hid (fun w => calls_below (rbits_any a 31 25 31 25 ha rfl rfl (by decide) (by decide) w))
  have T2 := Lib.hid (fun w => calls_below (rbits_any a 11 7 11 7 ha rfl rfl (by decide) (by decide) w))
  have T3 := Lib.hid (fun w => calls_below (rbits_any a 19 15 19 15 ha rfl rfl (by decide) (by decide) w))
  have T4 := Lib.hid (fun w => calls_below (rbits_any a 24 20 24 20 ha rfl rfl (by decide) (by decide) w))
  have T5 := Lib.hid (fun w => calls_below (rbits_any a 31 26 31 26 ha rfl rfl (by decide) (by decide) w))
  have T6 := Lib.hid (fun w => calls_below (rbits_any a 25 20 25 20 ha rfl rfl (by decide) (by decide) w))
  have TO := Lib.hid (fun w => calls_below (rbits_any a 6 0 6 0 ha rfl rfl (by decide) (by decide) w))
  have HX := Lib.hid (fd_lit (a := a) (h := 14) (l := 12) (n := 8) rfl)
  rw [hop] at TO
  clear hop
  have TM := Lib.hid (fun w => calls_below (rb_any a ha w))
  rw [show decOp 99 a = (if pk brL (fd a 14 12) = 0 then none else some ⟨5, pk brL (fd a 14 12), 0, (fd a 19 15), (fd a 24 20), (immB a), 0, false⟩ : Option Ins) from by simp [decOp]]
  generalize immB a = m at *
  generalize fd a 14 12 = x at *
  generalize fd a 31 25 = s at *
  generalize fd a 11 7 = rd at *
  generalize fd a 19 15 = rs1 at *
  generalize fd a 24 20 = rs2 at *
  generalize fd a 31 26 = hi at *
  generalize fd a 25 20 = sh at *
  obtain ⟨u, hu⟩ : ∃ u, pk ([1, 2, 0, 0, 3, 4, 5, 6] : List Int) x = u := ⟨_, rfl⟩
  rw [show pk brL x = u from hu]
  obtain ⟨E_, hEq⟩ : ∃ E_, (if u = 0 then none else some ⟨5, u, 0, rs1, rs2, m, 0, false⟩ : Option Ins) = E_ := ⟨_, rfl⟩
  rw [hEq]
  have hd : (u = 0 ∧ E_ = none) ∨ (¬ (u = 0) ∧ E_ = some ⟨5, u, 0, rs1, rs2, m, 0, false⟩) := by
    by_cases c0 : u = 0
    · exact Or.inl ⟨c0, by rw [← hEq]; simp [c0]⟩
    · exact Or.inr (⟨c0, by rw [← hEq]; simp [c0]⟩)
  clear hEq
  rcases hd with ⟨c0, hE⟩ | ⟨c0, hE⟩
  all_goals subst hE
  all_goals (
    go_enter Tryz.func100, Tryz.ntmps100
    go_wp2_with (first
 | (go_at_call 65; (with_reducible refine (T0.out _).mono ?_); rintro e w' ⟨rfl, hb⟩; (try replace PB := Lib.hid (PB.out.below hb)); replace ST := Lib.hid (ST.out.call hb); clear hb)
 | (go_at_call 65; (with_reducible refine (T1.out _).mono ?_); rintro e w' ⟨rfl, hb⟩; (try replace PB := Lib.hid (PB.out.below hb)); replace ST := Lib.hid (ST.out.call hb); clear hb)
 | (go_at_call 65; (with_reducible refine (T2.out _).mono ?_); rintro e w' ⟨rfl, hb⟩; (try replace PB := Lib.hid (PB.out.below hb)); replace ST := Lib.hid (ST.out.call hb); clear hb)
 | (go_at_call 65; (with_reducible refine (T3.out _).mono ?_); rintro e w' ⟨rfl, hb⟩; (try replace PB := Lib.hid (PB.out.below hb)); replace ST := Lib.hid (ST.out.call hb); clear hb)
 | (go_at_call 65; (with_reducible refine (T4.out _).mono ?_); rintro e w' ⟨rfl, hb⟩; (try replace PB := Lib.hid (PB.out.below hb)); replace ST := Lib.hid (ST.out.call hb); clear hb)
 | (go_at_call 65; (with_reducible refine (TO.out _).mono ?_); rintro e w' ⟨rfl, hb⟩; (try replace PB := Lib.hid (PB.out.below hb)); replace ST := Lib.hid (ST.out.call hb); clear hb)
 | (go_at_call 122; (with_reducible refine (TM.out _).mono ?_); rintro e w' ⟨rfl, hb⟩; (try replace PB := Lib.hid (PB.out.below hb)); replace ST := Lib.hid (ST.out.call hb); clear hb)
 | ((with_reducible refine Step.gate_build (t := 124) rfl ?_); refine Step.freshSlice (cs := #[.int .i64 1, .int .i64 2, .int .i64 0, .int .i64 0, .int .i64 3, .int .i64 4, .int .i64 5, .int .i64 6]) (T := 3) (n := 8) (m := 8) rfl ?hr ?_; (case hr => go_simp); intro g9 w1 b hg hb; have PB := Lib.hid (show Blk w1 g9 (Enc.ints ([1, 2, 0, 0, 3, 4, 5, 6] : List Int)) _ from b); replace ST := Lib.hid (ST.out.call hb); clear b hb hg)
 | (go_at_call 67; (with_reducible refine (rpick_any (n := 8) PB.out ([1, 2, 0, 0, 3, 4, 5, 6] : List Int) rfl rfl (by decide) _ (by first | exact small HX.out (by decide))).mono ?_); rintro e w' ⟨rfl, hb⟩; clear PB; replace ST := Lib.hid (ST.out.call hb); clear hb; (try rw [hu]))
 | (refine Step.freshAlloc rfl rfl (alloc_agg zero_inst) ?_; intro g2 w2 b hg hb; replace ST := Lib.hid (ST.out.more b hg hb); clear b hg hb)
 | (refine Step.freshAlloc rfl rfl (alloc_agg zero_inst) ?_; intro g1 w1 b hg hb; have ST := Lib.hid (S1.made b hg hb); clear b hg hb)
 | (refine Step.storeAll ST.out.one rfl rfl rfl rfl rfl size_inst rfl rfl ?_; intro w3 nb m; replace ST := Lib.hid (ST.out.set1 nb m); clear nb m)
 | (refine Step.storeAll ST.out.two rfl rfl rfl rfl rfl size_inst rfl rfl ?_; intro w3 nb m; replace ST := Lib.hid (ST.out.set2 nb m); clear nb m))
    refine bodyPost_ret (results_row_tmp rfl _ _ g1 _ _ _ rfl ST.out.one Tryz.underlying85 rfl size_inst) rfl ⟨rfl, ST.out.below⟩)
set_option maxHeartbeats 8000000 in
theorem rdec_3 (a : Int) (ha : W32 a) (hop : fd a 6 0 = 3) (w : World) : Calls Tryz.prog 100 #[.int .u32 a] w fun e w' => e = .returned (told (decOp 3 a)) ∧ Below w.heap.size w w' := by
  have T0 := Lib.hid (fun w => calls_below (rbits_any a 14 12 14 12 ha rfl rfl (by decide) (by decide) w))
  have T1 := Lib.hid (fun w => calls_below (rbits_any a 31 25 31 25 ha rfl rfl (by decide) (by decide) w))
  have T2 := Lib.hid (fun w => calls_below (rbits_any a 11 7 11 7 ha rfl rfl (by decide) (by decide) w))
  have T3 := Lib.hid (fun w => calls_below (rbits_any a 19 15 19 15 ha rfl rfl (by decide) (by decide) w))
  have T4 := Lib.hid (fun w => calls_below (rbits_any a 24 20 24 20 ha rfl rfl (by decide) (by decide) w))
  have T5 := Lib.hid (fun w => calls_below (rbits_any a 31 26 31 26 ha rfl rfl (by decide) (by decide) w))
  have T6 := Lib.hid (fun w => calls_below (rbits_any a 25 20 25 20 ha rfl rfl (by decide) (by decide) w))
  have TO := Lib.hid (fun w => calls_below (rbits_any a 6 0 6 0 ha rfl rfl (by decide) (by decide) w))
  have HX := Lib.hid (fd_lit (a := a) (h := 14) (l := 12) (n := 8) rfl)
  rw [hop] at TO
  clear hop
  have TM := Lib.hid (fun w => calls_below (ri_any a ha w))
  rw [show decOp 3 a = (if (fd a 14 12) < 7 then some ⟨6, 0, (fd a 11 7), (fd a 19 15), 0, (immI a), pk ldL (fd a 14 12), (decide ((fd a 14 12) < 4))⟩ else none : Option Ins) from by simp [decOp]]
  generalize immI a = m at *
  generalize fd a 14 12 = x at *
  generalize fd a 31 25 = s at *
  generalize fd a 11 7 = rd at *
  generalize fd a 19 15 = rs1 at *
  generalize fd a 24 20 = rs2 at *
  generalize fd a 31 26 = hi at *
  generalize fd a 25 20 = sh at *
  obtain ⟨E_, hEq⟩ : ∃ E_, (if x < 7 then some ⟨6, 0, rd, rs1, 0, m, pk ldL x, (decide (x < 4))⟩ else none : Option Ins) = E_ := ⟨_, rfl⟩
  rw [hEq]
  have hd : (x = 0 ∧ E_ = some ⟨6, 0, rd, rs1, 0, m, 1, true⟩) ∨ (x = 1 ∧ E_ = some ⟨6, 0, rd, rs1, 0, m, 2, true⟩) ∨ (x = 2 ∧ E_ = some ⟨6, 0, rd, rs1, 0, m, 4, true⟩) ∨ (x = 3 ∧ E_ = some ⟨6, 0, rd, rs1, 0, m, 8, true⟩) ∨ (x = 4 ∧ E_ = some ⟨6, 0, rd, rs1, 0, m, 1, false⟩) ∨ (x = 5 ∧ E_ = some ⟨6, 0, rd, rs1, 0, m, 2, false⟩) ∨ (x = 6 ∧ E_ = some ⟨6, 0, rd, rs1, 0, m, 4, false⟩) ∨ (x = 7 ∧ E_ = none) := by
    have := HX.out
    rw [← hEq]
    obtain h | h | h | h | h | h | h | h : x = 0 ∨ x = 1 ∨ x = 2 ∨ x = 3 ∨ x = 4 ∨ x = 5 ∨ x = 6 ∨ x = 7 := by omega
    all_goals (subst h; simp [ldL, stL, pk])
  clear hEq
  have hu0 : pk ([1, 2, 4, 8, 1, 2, 4] : List Int) 0 = 1 := rfl
  have hu1 : pk ([1, 2, 4, 8, 1, 2, 4] : List Int) 1 = 2 := rfl
  have hu2 : pk ([1, 2, 4, 8, 1, 2, 4] : List Int) 2 = 4 := rfl
  have hu3 : pk ([1, 2, 4, 8, 1, 2, 4] : List Int) 3 = 8 := rfl
  have hu4 : pk ([1, 2, 4, 8, 1, 2, 4] : List Int) 4 = 1 := rfl
  have hu5 : pk ([1, 2, 4, 8, 1, 2, 4] : List Int) 5 = 2 := rfl
  have hu6 : pk ([1, 2, 4, 8, 1, 2, 4] : List Int) 6 = 4 := rfl
  have hu7 : pk ([1, 2, 4, 8, 1, 2, 4] : List Int) 7 = 0 := rfl
  rcases hd with ⟨c0, hE⟩ | ⟨c0, hE⟩ | ⟨c0, hE⟩ | ⟨c0, hE⟩ | ⟨c0, hE⟩ | ⟨c0, hE⟩ | ⟨c0, hE⟩ | ⟨c0, hE⟩
  all_goals subst hE
  all_goals subst c0
  all_goals (
    go_enter Tryz.func100, Tryz.ntmps100
    go_wp2_with (first
 | (go_at_call 65; (with_reducible refine (T0.out _).mono ?_); rintro e w' ⟨rfl, hb⟩; (try replace PB := Lib.hid (PB.out.below hb)); replace ST := Lib.hid (ST.out.call hb); clear hb)
 | (go_at_call 65; (with_reducible refine (T1.out _).mono ?_); rintro e w' ⟨rfl, hb⟩; (try replace PB := Lib.hid (PB.out.below hb)); replace ST := Lib.hid (ST.out.call hb); clear hb)
 | (go_at_call 65; (with_reducible refine (T2.out _).mono ?_); rintro e w' ⟨rfl, hb⟩; (try replace PB := Lib.hid (PB.out.below hb)); replace ST := Lib.hid (ST.out.call hb); clear hb)
 | (go_at_call 65; (with_reducible refine (T3.out _).mono ?_); rintro e w' ⟨rfl, hb⟩; (try replace PB := Lib.hid (PB.out.below hb)); replace ST := Lib.hid (ST.out.call hb); clear hb)
 | (go_at_call 65; (with_reducible refine (T4.out _).mono ?_); rintro e w' ⟨rfl, hb⟩; (try replace PB := Lib.hid (PB.out.below hb)); replace ST := Lib.hid (ST.out.call hb); clear hb)
 | (go_at_call 65; (with_reducible refine (TO.out _).mono ?_); rintro e w' ⟨rfl, hb⟩; (try replace PB := Lib.hid (PB.out.below hb)); replace ST := Lib.hid (ST.out.call hb); clear hb)
 | (go_at_call 121; (with_reducible refine (TM.out _).mono ?_); rintro e w' ⟨rfl, hb⟩; (try replace PB := Lib.hid (PB.out.below hb)); replace ST := Lib.hid (ST.out.call hb); clear hb)
 | ((with_reducible refine Step.gate_build (t := 124) rfl ?_); refine Step.freshSlice (cs := #[.int .i64 1, .int .i64 2, .int .i64 4, .int .i64 8, .int .i64 1, .int .i64 2, .int .i64 4]) (T := 3) (n := 7) (m := 7) rfl ?hr ?_; (case hr => go_simp); intro g9 w1 b hg hb; have PB := Lib.hid (show Blk w1 g9 (Enc.ints ([1, 2, 4, 8, 1, 2, 4] : List Int)) _ from b); replace ST := Lib.hid (ST.out.call hb); clear b hb hg)
 | (go_at_call 67; (with_reducible refine (rpick_any (n := 7) PB.out ([1, 2, 4, 8, 1, 2, 4] : List Int) rfl rfl (by decide) _ (by first | exact small HX.out (by decide))).mono ?_); rintro e w' ⟨rfl, hb⟩; clear PB; replace ST := Lib.hid (ST.out.call hb); clear hb; (try rw [hu0]); (try rw [hu1]); (try rw [hu2]); (try rw [hu3]); (try rw [hu4]); (try rw [hu5]); (try rw [hu6]); (try rw [hu7]))
 | (refine Step.freshAlloc rfl rfl (alloc_agg zero_inst) ?_; intro g2 w2 b hg hb; replace ST := Lib.hid (ST.out.more b hg hb); clear b hg hb)
 | (refine Step.freshAlloc rfl rfl (alloc_agg zero_inst) ?_; intro g1 w1 b hg hb; have ST := Lib.hid (S1.made b hg hb); clear b hg hb)
 | (refine Step.storeAll ST.out.one rfl rfl rfl rfl rfl size_inst rfl rfl ?_; intro w3 nb m; replace ST := Lib.hid (ST.out.set1 nb m); clear nb m)
 | (refine Step.store ST.out.two rfl rfl rfl rfl rfl pl_int rfl rfl ?_; intro w3 nb m; replace ST := Lib.hid (ST.out.set2 nb m); clear nb m)
 | (refine Step.store ST.out.two rfl rfl rfl rfl rfl pl_bool rfl rfl ?_; intro w3 nb m; replace ST := Lib.hid (ST.out.set2 nb m); clear nb m)
 | (refine Step.storeAll ST.out.two rfl rfl rfl rfl rfl size_inst rfl rfl ?_; intro w3 nb m; replace ST := Lib.hid (ST.out.set2 nb m); clear nb m)
 | (refine Step.loadAll ST.out.two rfl rfl rfl Tryz.underlying85 rfl size_inst ?_))
    refine bodyPost_ret (results_row_tmp rfl _ _ g1 _ _ _ rfl ST.out.one Tryz.underlying85 rfl size_inst) rfl ⟨rfl, ST.out.below⟩)
set_option maxHeartbeats 8000000 in
theorem rdec_35 (a : Int) (ha : W32 a) (hop : fd a 6 0 = 35) (w : World) : Calls Tryz.prog 100 #[.int .u32 a] w fun e w' => e = .returned (told (decOp 35 a)) ∧ Below w.heap.size w w' := by
  have T0 := Lib.hid (fun w => calls_below (rbits_any a 14 12 14 12 ha rfl rfl (by decide) (by decide) w))
  have T1 := Lib.hid (fun w => calls_below (rbits_any a 31 25 31 25 ha rfl rfl (by decide) (by decide) w))
  have T2 := Lib.hid (fun w => calls_below (rbits_any a 11 7 11 7 ha rfl rfl (by decide) (by decide) w))
  have T3 := Lib.hid (fun w => calls_below (rbits_any a 19 15 19 15 ha rfl rfl (by decide) (by decide) w))
  have T4 := Lib.hid (fun w => calls_below (rbits_any a 24 20 24 20 ha rfl rfl (by decide) (by decide) w))
  have T5 := Lib.hid (fun w => calls_below (rbits_any a 31 26 31 26 ha rfl rfl (by decide) (by decide) w))
  have T6 := Lib.hid (fun w => calls_below (rbits_any a 25 20 25 20 ha rfl rfl (by decide) (by decide) w))
  have TO := Lib.hid (fun w => calls_below (rbits_any a 6 0 6 0 ha rfl rfl (by decide) (by decide) w))
  have HX := Lib.hid (fd_lit (a := a) (h := 14) (l := 12) (n := 8) rfl)
  rw [hop] at TO
  clear hop
  have TM := Lib.hid (fun w => calls_below (rs_any a ha w))
  rw [show decOp 35 a = (if (fd a 14 12) < 4 then some ⟨7, 0, 0, (fd a 19 15), (fd a 24 20), (immS a), pk stL (fd a 14 12), false⟩ else none : Option Ins) from by simp [decOp]]
  generalize immS a = m at *
  generalize fd a 14 12 = x at *
  generalize fd a 31 25 = s at *
  generalize fd a 11 7 = rd at *
  generalize fd a 19 15 = rs1 at *
  generalize fd a 24 20 = rs2 at *
  generalize fd a 31 26 = hi at *
  generalize fd a 25 20 = sh at *
  obtain ⟨E_, hEq⟩ : ∃ E_, (if x < 4 then some ⟨7, 0, 0, rs1, rs2, m, pk stL x, false⟩ else none : Option Ins) = E_ := ⟨_, rfl⟩
  rw [hEq]
  have hd : (x = 0 ∧ E_ = some ⟨7, 0, 0, rs1, rs2, m, 1, false⟩) ∨ (x = 1 ∧ E_ = some ⟨7, 0, 0, rs1, rs2, m, 2, false⟩) ∨ (x = 2 ∧ E_ = some ⟨7, 0, 0, rs1, rs2, m, 4, false⟩) ∨ (x = 3 ∧ E_ = some ⟨7, 0, 0, rs1, rs2, m, 8, false⟩) ∨ (x = 4 ∧ E_ = none) ∨ (x = 5 ∧ E_ = none) ∨ (x = 6 ∧ E_ = none) ∨ (x = 7 ∧ E_ = none) := by
    have := HX.out
    rw [← hEq]
    obtain h | h | h | h | h | h | h | h : x = 0 ∨ x = 1 ∨ x = 2 ∨ x = 3 ∨ x = 4 ∨ x = 5 ∨ x = 6 ∨ x = 7 := by omega
    all_goals (subst h; simp [ldL, stL, pk])
  clear hEq
  have hu0 : pk ([1, 2, 4, 8] : List Int) 0 = 1 := rfl
  have hu1 : pk ([1, 2, 4, 8] : List Int) 1 = 2 := rfl
  have hu2 : pk ([1, 2, 4, 8] : List Int) 2 = 4 := rfl
  have hu3 : pk ([1, 2, 4, 8] : List Int) 3 = 8 := rfl
  have hu4 : pk ([1, 2, 4, 8] : List Int) 4 = 0 := rfl
  have hu5 : pk ([1, 2, 4, 8] : List Int) 5 = 0 := rfl
  have hu6 : pk ([1, 2, 4, 8] : List Int) 6 = 0 := rfl
  have hu7 : pk ([1, 2, 4, 8] : List Int) 7 = 0 := rfl
  rcases hd with ⟨c0, hE⟩ | ⟨c0, hE⟩ | ⟨c0, hE⟩ | ⟨c0, hE⟩ | ⟨c0, hE⟩ | ⟨c0, hE⟩ | ⟨c0, hE⟩ | ⟨c0, hE⟩
  all_goals subst hE
  all_goals subst c0
  all_goals (
    go_enter Tryz.func100, Tryz.ntmps100
    go_wp2_with (first
 | (go_at_call 65; (with_reducible refine (T0.out _).mono ?_); rintro e w' ⟨rfl, hb⟩; (try replace PB := Lib.hid (PB.out.below hb)); replace ST := Lib.hid (ST.out.call hb); clear hb)
 | (go_at_call 65; (with_reducible refine (T1.out _).mono ?_); rintro e w' ⟨rfl, hb⟩; (try replace PB := Lib.hid (PB.out.below hb)); replace ST := Lib.hid (ST.out.call hb); clear hb)
 | (go_at_call 65; (with_reducible refine (T2.out _).mono ?_); rintro e w' ⟨rfl, hb⟩; (try replace PB := Lib.hid (PB.out.below hb)); replace ST := Lib.hid (ST.out.call hb); clear hb)
 | (go_at_call 65; (with_reducible refine (T3.out _).mono ?_); rintro e w' ⟨rfl, hb⟩; (try replace PB := Lib.hid (PB.out.below hb)); replace ST := Lib.hid (ST.out.call hb); clear hb)
 | (go_at_call 65; (with_reducible refine (T4.out _).mono ?_); rintro e w' ⟨rfl, hb⟩; (try replace PB := Lib.hid (PB.out.below hb)); replace ST := Lib.hid (ST.out.call hb); clear hb)
 | (go_at_call 65; (with_reducible refine (TO.out _).mono ?_); rintro e w' ⟨rfl, hb⟩; (try replace PB := Lib.hid (PB.out.below hb)); replace ST := Lib.hid (ST.out.call hb); clear hb)
 | (go_at_call 123; (with_reducible refine (TM.out _).mono ?_); rintro e w' ⟨rfl, hb⟩; (try replace PB := Lib.hid (PB.out.below hb)); replace ST := Lib.hid (ST.out.call hb); clear hb)
 | ((with_reducible refine Step.gate_build (t := 124) rfl ?_); refine Step.freshSlice (cs := #[.int .i64 1, .int .i64 2, .int .i64 4, .int .i64 8]) (T := 3) (n := 4) (m := 4) rfl ?hr ?_; (case hr => go_simp); intro g9 w1 b hg hb; have PB := Lib.hid (show Blk w1 g9 (Enc.ints ([1, 2, 4, 8] : List Int)) _ from b); replace ST := Lib.hid (ST.out.call hb); clear b hb hg)
 | (go_at_call 67; (with_reducible refine (rpick_any (n := 4) PB.out ([1, 2, 4, 8] : List Int) rfl rfl (by decide) _ (by first | exact small HX.out (by decide))).mono ?_); rintro e w' ⟨rfl, hb⟩; clear PB; replace ST := Lib.hid (ST.out.call hb); clear hb; (try rw [hu0]); (try rw [hu1]); (try rw [hu2]); (try rw [hu3]); (try rw [hu4]); (try rw [hu5]); (try rw [hu6]); (try rw [hu7]))
 | (refine Step.freshAlloc rfl rfl (alloc_agg zero_inst) ?_; intro g2 w2 b hg hb; replace ST := Lib.hid (ST.out.more b hg hb); clear b hg hb)
 | (refine Step.freshAlloc rfl rfl (alloc_agg zero_inst) ?_; intro g1 w1 b hg hb; have ST := Lib.hid (S1.made b hg hb); clear b hg hb)
 | (refine Step.storeAll ST.out.one rfl rfl rfl rfl rfl size_inst rfl rfl ?_; intro w3 nb m; replace ST := Lib.hid (ST.out.set1 nb m); clear nb m)
 | (refine Step.storeAll ST.out.two rfl rfl rfl rfl rfl size_inst rfl rfl ?_; intro w3 nb m; replace ST := Lib.hid (ST.out.set2 nb m); clear nb m))
    refine bodyPost_ret (results_row_tmp rfl _ _ g1 _ _ _ rfl ST.out.one Tryz.underlying85 rfl size_inst) rfl ⟨rfl, ST.out.below⟩)
set_option maxHeartbeats 8000000 in
theorem rdec_19 (a : Int) (ha : W32 a) (hop : fd a 6 0 = 19) (w : World) : Calls Tryz.prog 100 #[.int .u32 a] w fun e w' => e = .returned (told (decOp 19 a)) ∧ Below w.heap.size w w' := by
  have T0 := Lib.hid (fun w => calls_below (rbits_any a 14 12 14 12 ha rfl rfl (by decide) (by decide) w))
  have T1 := Lib.hid (fun w => calls_below (rbits_any a 31 25 31 25 ha rfl rfl (by decide) (by decide) w))
  have T2 := Lib.hid (fun w => calls_below (rbits_any a 11 7 11 7 ha rfl rfl (by decide) (by decide) w))
  have T3 := Lib.hid (fun w => calls_below (rbits_any a 19 15 19 15 ha rfl rfl (by decide) (by decide) w))
  have T4 := Lib.hid (fun w => calls_below (rbits_any a 24 20 24 20 ha rfl rfl (by decide) (by decide) w))
  have T5 := Lib.hid (fun w => calls_below (rbits_any a 31 26 31 26 ha rfl rfl (by decide) (by decide) w))
  have T6 := Lib.hid (fun w => calls_below (rbits_any a 25 20 25 20 ha rfl rfl (by decide) (by decide) w))
  have TO := Lib.hid (fun w => calls_below (rbits_any a 6 0 6 0 ha rfl rfl (by decide) (by decide) w))
  have HX := Lib.hid (fd_lit (a := a) (h := 14) (l := 12) (n := 8) rfl)
  rw [hop] at TO
  clear hop
  have TM := Lib.hid (fun w => calls_below (ri_any a ha w))
  rw [show decOp 19 a = (if (im13 (fd a 31 26) (fd a 14 12) (fd a 25 20) (immI a)).2.2 then some ⟨9, (im13 (fd a 31 26) (fd a 14 12) (fd a 25 20) (immI a)).1, (fd a 11 7), (fd a 19 15), 0, (im13 (fd a 31 26) (fd a 14 12) (fd a 25 20) (immI a)).2.1, 0, false⟩ else none : Option Ins) from by simp [decOp]]
  generalize immI a = m at *
  generalize fd a 14 12 = x at *
  generalize fd a 31 25 = s at *
  generalize fd a 11 7 = rd at *
  generalize fd a 19 15 = rs1 at *
  generalize fd a 24 20 = rs2 at *
  generalize fd a 31 26 = hi at *
  generalize fd a 25 20 = sh at *
  obtain ⟨u, hu⟩ : ∃ u, pk ([1, 0, 4, 5, 6, 0, 9, 10] : List Int) x = u := ⟨_, rfl⟩
  have hn : ¬ x = 1 → ¬ x = 5 → u ≠ 0 := fun h1 h5 => by
    have := HX.out
    obtain h | h | h | h | h | h : x = 0 ∨ x = 2 ∨ x = 3 ∨ x = 4 ∨ x = 6 ∨ x = 7 := by omega
    all_goals (subst h; rw [← hu]; decide)
  have h51 : x = 5 → ¬ x = 1 := by omega
  have h016 : hi = 0 → ¬ hi = 16 := by omega
  obtain ⟨E_, hEq⟩ : ∃ E_, (if (im13 hi x sh m).2.2 then some ⟨9, (im13 hi x sh m).1, rd, rs1, 0, (im13 hi x sh m).2.1, 0, false⟩ else none : Option Ins) = E_ := ⟨_, rfl⟩
  rw [hEq]
  have hd : (x = 1 ∧ hi = 0 ∧ E_ = some ⟨9, 3, rd, rs1, 0, sh, 0, false⟩) ∨ (x = 1 ∧ ¬ (hi = 0) ∧ E_ = none) ∨ (¬ (x = 1) ∧ x = 5 ∧ hi = 0 ∧ E_ = some ⟨9, 7, rd, rs1, 0, sh, 0, false⟩) ∨ (¬ (x = 1) ∧ x = 5 ∧ ¬ (hi = 0) ∧ hi = 16 ∧ E_ = some ⟨9, 8, rd, rs1, 0, sh, 0, false⟩) ∨ (¬ (x = 1) ∧ x = 5 ∧ ¬ (hi = 0) ∧ ¬ (hi = 16) ∧ E_ = none) ∨ (¬ (x = 1) ∧ ¬ (x = 5) ∧ E_ = some ⟨9, u, rd, rs1, 0, m, 0, false⟩ ∧ u ≠ 0) := by
    by_cases c0 : x = 1
    · by_cases c1 : hi = 0
      · exact Or.inl ⟨c0, c1, by rw [← hEq]; simp [c0, c1, im13]⟩
      · exact Or.inr (Or.inl ⟨c0, c1, by rw [← hEq]; simp [c0, c1, im13]⟩)
    · by_cases c1 : x = 5
      · by_cases c2 : hi = 0
        · exact Or.inr (Or.inr (Or.inl ⟨c0, c1, c2, by rw [← hEq]; simp [c0, c1, c2, im13]⟩))
        · by_cases c3 : hi = 16
          · exact Or.inr (Or.inr (Or.inr (Or.inl ⟨c0, c1, c2, c3, by rw [← hEq]; simp [c0, c1, c2, c3, im13]⟩)))
          · exact Or.inr (Or.inr (Or.inr (Or.inr (Or.inl ⟨c0, c1, c2, c3, by rw [← hEq]; simp [c0, c1, c2, c3, im13]⟩))))
      · exact Or.inr (Or.inr (Or.inr (Or.inr (Or.inr (⟨c0, c1, by rw [← hEq]; simp [c0, c1, im13, hu], hn c0 c1⟩)))))
  clear hEq hn h51
  have hu1 : pk ([1, 0, 4, 5, 6, 0, 9, 10] : List Int) 1 = 0 := rfl
  have hu5 : pk ([1, 0, 4, 5, 6, 0, 9, 10] : List Int) 5 = 0 := rfl
  rcases hd with ⟨c0, c1, hE⟩ | ⟨c0, c1, hE⟩ | ⟨c0, c1, c2, hE⟩ | ⟨c0, c1, c2, c3, hE⟩ | ⟨c0, c1, c2, c3, hE⟩ | ⟨c0, c1, hE, hn⟩
  all_goals subst hE
  all_goals (
    go_enter Tryz.func100, Tryz.ntmps100
    go_wp2_with (first
 | (go_at_call 65; (with_reducible refine (T0.out _).mono ?_); rintro e w' ⟨rfl, hb⟩; (try replace PB := Lib.hid (PB.out.below hb)); replace ST := Lib.hid (ST.out.call hb); clear hb)
 | (go_at_call 65; (with_reducible refine (T1.out _).mono ?_); rintro e w' ⟨rfl, hb⟩; (try replace PB := Lib.hid (PB.out.below hb)); replace ST := Lib.hid (ST.out.call hb); clear hb)
 | (go_at_call 65; (with_reducible refine (T2.out _).mono ?_); rintro e w' ⟨rfl, hb⟩; (try replace PB := Lib.hid (PB.out.below hb)); replace ST := Lib.hid (ST.out.call hb); clear hb)
 | (go_at_call 65; (with_reducible refine (T3.out _).mono ?_); rintro e w' ⟨rfl, hb⟩; (try replace PB := Lib.hid (PB.out.below hb)); replace ST := Lib.hid (ST.out.call hb); clear hb)
 | (go_at_call 65; (with_reducible refine (T4.out _).mono ?_); rintro e w' ⟨rfl, hb⟩; (try replace PB := Lib.hid (PB.out.below hb)); replace ST := Lib.hid (ST.out.call hb); clear hb)
 | (go_at_call 65; (with_reducible refine (T5.out _).mono ?_); rintro e w' ⟨rfl, hb⟩; (try replace PB := Lib.hid (PB.out.below hb)); replace ST := Lib.hid (ST.out.call hb); clear hb)
 | (go_at_call 65; (with_reducible refine (T6.out _).mono ?_); rintro e w' ⟨rfl, hb⟩; (try replace PB := Lib.hid (PB.out.below hb)); replace ST := Lib.hid (ST.out.call hb); clear hb)
 | (go_at_call 65; (with_reducible refine (TO.out _).mono ?_); rintro e w' ⟨rfl, hb⟩; (try replace PB := Lib.hid (PB.out.below hb)); replace ST := Lib.hid (ST.out.call hb); clear hb)
 | (go_at_call 121; (with_reducible refine (TM.out _).mono ?_); rintro e w' ⟨rfl, hb⟩; (try replace PB := Lib.hid (PB.out.below hb)); replace ST := Lib.hid (ST.out.call hb); clear hb)
 | ((with_reducible refine Step.gate_build (t := 124) rfl ?_); refine Step.freshSlice (cs := #[.int .i64 1, .int .i64 0, .int .i64 4, .int .i64 5, .int .i64 6, .int .i64 0, .int .i64 9, .int .i64 10]) (T := 3) (n := 8) (m := 8) rfl ?hr ?_; (case hr => go_simp); intro g9 w1 b hg hb; have PB := Lib.hid (show Blk w1 g9 (Enc.ints ([1, 0, 4, 5, 6, 0, 9, 10] : List Int)) _ from b); replace ST := Lib.hid (ST.out.call hb); clear b hb hg)
 | (go_at_call 67; (with_reducible refine (rpick_any (n := 8) PB.out ([1, 0, 4, 5, 6, 0, 9, 10] : List Int) rfl rfl (by decide) _ (by first | exact small HX.out (by decide) | decide)).mono ?_); rintro e w' ⟨rfl, hb⟩; clear PB; replace ST := Lib.hid (ST.out.call hb); clear hb; (try rw [hu]); (try rw [hu1]); (try rw [hu5]))
 | (refine Step.freshAlloc rfl rfl (alloc_agg zero_inst) ?_; intro g2 w2 b hg hb; replace ST := Lib.hid (ST.out.more b hg hb); clear b hg hb)
 | (refine Step.freshAlloc rfl rfl (alloc_agg zero_inst) ?_; intro g1 w1 b hg hb; have ST := Lib.hid (S1.made b hg hb); clear b hg hb)
 | (refine Step.storeAll ST.out.one rfl rfl rfl rfl rfl size_inst rfl rfl ?_; intro w3 nb m; replace ST := Lib.hid (ST.out.set1 nb m); clear nb m)
 | (refine Step.store ST.out.two rfl rfl rfl rfl rfl pl_int rfl rfl ?_; intro w3 nb m; replace ST := Lib.hid (ST.out.set2 nb m); clear nb m)
 | (refine Step.storeAll ST.out.two rfl rfl rfl rfl rfl size_inst rfl rfl ?_; intro w3 nb m; replace ST := Lib.hid (ST.out.set2 nb m); clear nb m)
 | (refine Step.load ST.out.two rfl rfl rfl pl_int rfl ?_)
 | (refine Step.loadAll ST.out.two rfl rfl rfl Tryz.underlying85 rfl size_inst ?_))
    refine bodyPost_ret (results_row_tmp rfl _ _ g1 _ _ _ rfl ST.out.one Tryz.underlying85 rfl size_inst) rfl ⟨rfl, ST.out.below⟩)
set_option maxHeartbeats 8000000 in
theorem rdec_27 (a : Int) (ha : W32 a) (hop : fd a 6 0 = 27) (w : World) : Calls Tryz.prog 100 #[.int .u32 a] w fun e w' => e = .returned (told (decOp 27 a)) ∧ Below w.heap.size w w' := by
  have T0 := Lib.hid (fun w => calls_below (rbits_any a 14 12 14 12 ha rfl rfl (by decide) (by decide) w))
  have T1 := Lib.hid (fun w => calls_below (rbits_any a 31 25 31 25 ha rfl rfl (by decide) (by decide) w))
  have T2 := Lib.hid (fun w => calls_below (rbits_any a 11 7 11 7 ha rfl rfl (by decide) (by decide) w))
  have T3 := Lib.hid (fun w => calls_below (rbits_any a 19 15 19 15 ha rfl rfl (by decide) (by decide) w))
  have T4 := Lib.hid (fun w => calls_below (rbits_any a 24 20 24 20 ha rfl rfl (by decide) (by decide) w))
  have T5 := Lib.hid (fun w => calls_below (rbits_any a 31 26 31 26 ha rfl rfl (by decide) (by decide) w))
  have T6 := Lib.hid (fun w => calls_below (rbits_any a 25 20 25 20 ha rfl rfl (by decide) (by decide) w))
  have TO := Lib.hid (fun w => calls_below (rbits_any a 6 0 6 0 ha rfl rfl (by decide) (by decide) w))
  have HX := Lib.hid (fd_lit (a := a) (h := 14) (l := 12) (n := 8) rfl)
  rw [hop] at TO
  clear hop
  have TM := Lib.hid (fun w => calls_below (ri_any a ha w))
  rw [show decOp 27 a = (if (im1b (fd a 31 25) (fd a 14 12) (fd a 24 20) (immI a)).2.2 then some ⟨9, (im1b (fd a 31 25) (fd a 14 12) (fd a 24 20) (immI a)).1, (fd a 11 7), (fd a 19 15), 0, (im1b (fd a 31 25) (fd a 14 12) (fd a 24 20) (immI a)).2.1, 0, false⟩ else none : Option Ins) from by simp [decOp]]
  generalize immI a = m at *
  generalize fd a 14 12 = x at *
  generalize fd a 31 25 = s at *
  generalize fd a 11 7 = rd at *
  generalize fd a 19 15 = rs1 at *
  generalize fd a 24 20 = rs2 at *
  generalize fd a 31 26 = hi at *
  generalize fd a 25 20 = sh at *
  obtain ⟨E_, hEq⟩ : ∃ E_, (if (im1b s x rs2 m).2.2 then some ⟨9, (im1b s x rs2 m).1, rd, rs1, 0, (im1b s x rs2 m).2.1, 0, false⟩ else none : Option Ins) = E_ := ⟨_, rfl⟩
  rw [hEq]
  have hd : (x = 0 ∧ E_ = some ⟨9, 19, rd, rs1, 0, m, 0, false⟩) ∨ (¬ (x = 0) ∧ x = 1 ∧ s = 0 ∧ E_ = some ⟨9, 21, rd, rs1, 0, rs2, 0, false⟩) ∨ (¬ (x = 0) ∧ x = 1 ∧ ¬ (s = 0) ∧ E_ = none) ∨ (¬ (x = 0) ∧ ¬ (x = 1) ∧ x = 5 ∧ s = 0 ∧ E_ = some ⟨9, 22, rd, rs1, 0, rs2, 0, false⟩) ∨ (¬ (x = 0) ∧ ¬ (x = 1) ∧ x = 5 ∧ ¬ (s = 0) ∧ s = 32 ∧ E_ = some ⟨9, 23, rd, rs1, 0, rs2, 0, false⟩) ∨ (¬ (x = 0) ∧ ¬ (x = 1) ∧ x = 5 ∧ ¬ (s = 0) ∧ ¬ (s = 32) ∧ E_ = none) ∨ (¬ (x = 0) ∧ ¬ (x = 1) ∧ ¬ (x = 5) ∧ E_ = none) := by
    by_cases c0 : x = 0
    · exact Or.inl ⟨c0, by rw [← hEq]; simp [c0, im1b]⟩
    · by_cases c1 : x = 1
      · by_cases c2 : s = 0
        · exact Or.inr (Or.inl ⟨c0, c1, c2, by rw [← hEq]; simp [c0, c1, c2, im1b]⟩)
        · exact Or.inr (Or.inr (Or.inl ⟨c0, c1, c2, by rw [← hEq]; simp [c0, c1, c2, im1b]⟩))
      · by_cases c2 : x = 5
        · by_cases c3 : s = 0
          · exact Or.inr (Or.inr (Or.inr (Or.inl ⟨c0, c1, c2, c3, by rw [← hEq]; simp [c0, c1, c2, c3, im1b]⟩)))
          · by_cases c4 : s = 32
            · exact Or.inr (Or.inr (Or.inr (Or.inr (Or.inl ⟨c0, c1, c2, c3, c4, by rw [← hEq]; simp [c0, c1, c2, c3, c4, im1b]⟩))))
            · exact Or.inr (Or.inr (Or.inr (Or.inr (Or.inr (Or.inl ⟨c0, c1, c2, c3, c4, by rw [← hEq]; simp [c0, c1, c2, c3, c4, im1b]⟩)))))
        · exact Or.inr (Or.inr (Or.inr (Or.inr (Or.inr (Or.inr (⟨c0, c1, c2, by rw [← hEq]; simp [c0, c1, c2, im1b]⟩))))))
  clear hEq
  rcases hd with ⟨c0, hE⟩ | ⟨c0, c1, c2, hE⟩ | ⟨c0, c1, c2, hE⟩ | ⟨c0, c1, c2, c3, hE⟩ | ⟨c0, c1, c2, c3, c4, hE⟩ | ⟨c0, c1, c2, c3, c4, hE⟩ | ⟨c0, c1, c2, hE⟩
  all_goals subst hE
  all_goals (
    go_enter Tryz.func100, Tryz.ntmps100
    go_wp2_with (first
 | (go_at_call 65; (with_reducible refine (T0.out _).mono ?_); rintro e w' ⟨rfl, hb⟩; replace ST := Lib.hid (ST.out.call hb); clear hb)
 | (go_at_call 65; (with_reducible refine (T1.out _).mono ?_); rintro e w' ⟨rfl, hb⟩; replace ST := Lib.hid (ST.out.call hb); clear hb)
 | (go_at_call 65; (with_reducible refine (T2.out _).mono ?_); rintro e w' ⟨rfl, hb⟩; replace ST := Lib.hid (ST.out.call hb); clear hb)
 | (go_at_call 65; (with_reducible refine (T3.out _).mono ?_); rintro e w' ⟨rfl, hb⟩; replace ST := Lib.hid (ST.out.call hb); clear hb)
 | (go_at_call 65; (with_reducible refine (T4.out _).mono ?_); rintro e w' ⟨rfl, hb⟩; replace ST := Lib.hid (ST.out.call hb); clear hb)
 | (go_at_call 65; (with_reducible refine (TO.out _).mono ?_); rintro e w' ⟨rfl, hb⟩; replace ST := Lib.hid (ST.out.call hb); clear hb)
 | (go_at_call 121; (with_reducible refine (TM.out _).mono ?_); rintro e w' ⟨rfl, hb⟩; replace ST := Lib.hid (ST.out.call hb); clear hb)
 | (refine Step.freshAlloc rfl rfl (alloc_agg zero_inst) ?_; intro g2 w2 b hg hb; replace ST := Lib.hid (ST.out.more b hg hb); clear b hg hb)
 | (refine Step.freshAlloc rfl rfl (alloc_agg zero_inst) ?_; intro g1 w1 b hg hb; have ST := Lib.hid (S1.made b hg hb); clear b hg hb)
 | (refine Step.storeAll ST.out.one rfl rfl rfl rfl rfl size_inst rfl rfl ?_; intro w3 nb m; replace ST := Lib.hid (ST.out.set1 nb m); clear nb m)
 | (refine Step.store ST.out.two rfl rfl rfl rfl rfl pl_int rfl rfl ?_; intro w3 nb m; replace ST := Lib.hid (ST.out.set2 nb m); clear nb m)
 | (refine Step.storeAll ST.out.two rfl rfl rfl rfl rfl size_inst rfl rfl ?_; intro w3 nb m; replace ST := Lib.hid (ST.out.set2 nb m); clear nb m)
 | (refine Step.load ST.out.two rfl rfl rfl pl_int rfl ?_)
 | (refine Step.loadAll ST.out.two rfl rfl rfl Tryz.underlying85 rfl size_inst ?_))
    refine bodyPost_ret (results_row_tmp rfl _ _ g1 _ _ _ rfl ST.out.one Tryz.underlying85 rfl size_inst) rfl ⟨rfl, ST.out.below⟩)
theorem pk_pad (L M : List Int) (h : ∀ k, k < 8 → L.getD k 0 = M.getD k 0) (x : Int) (hx : 0 ≤ x ∧ x < 8) : pk L x = pk M x := by
  unfold pk
  rw [if_neg (by omega), if_neg (by omega)]
  exact h _ (by omega)
set_option maxHeartbeats 8000000 in
theorem rdec_51 (a : Int) (ha : W32 a) (hop : fd a 6 0 = 51) (w : World) : Calls Tryz.prog 100 #[.int .u32 a] w fun e w' => e = .returned (told (decOp 51 a)) ∧ Below w.heap.size w w' := by
  have T0 := Lib.hid (fun w => calls_below (rbits_any a 14 12 14 12 ha rfl rfl (by decide) (by decide) w))
  have T1 := Lib.hid (fun w => calls_below (rbits_any a 31 25 31 25 ha rfl rfl (by decide) (by decide) w))
  have T2 := Lib.hid (fun w => calls_below (rbits_any a 11 7 11 7 ha rfl rfl (by decide) (by decide) w))
  have T3 := Lib.hid (fun w => calls_below (rbits_any a 19 15 19 15 ha rfl rfl (by decide) (by decide) w))
  have T4 := Lib.hid (fun w => calls_below (rbits_any a 24 20 24 20 ha rfl rfl (by decide) (by decide) w))
  have T5 := Lib.hid (fun w => calls_below (rbits_any a 31 26 31 26 ha rfl rfl (by decide) (by decide) w))
  have T6 := Lib.hid (fun w => calls_below (rbits_any a 25 20 25 20 ha rfl rfl (by decide) (by decide) w))
  have TO := Lib.hid (fun w => calls_below (rbits_any a 6 0 6 0 ha rfl rfl (by decide) (by decide) w))
  have HX := Lib.hid (fd_lit (a := a) (h := 14) (l := 12) (n := 8) rfl)
  rw [hop] at TO
  clear hop
  rw [show decOp 51 a = (if (regF true (fd a 31 25) (fd a 14 12)) = 0 then none else some ⟨8, (regF true (fd a 31 25) (fd a 14 12)), (fd a 11 7), (fd a 19 15), (fd a 24 20), 0, 0, false⟩ : Option Ins) from by simp [decOp]]
  generalize fd a 14 12 = x at *
  generalize fd a 31 25 = s at *
  generalize fd a 11 7 = rd at *
  generalize fd a 19 15 = rs1 at *
  generalize fd a 24 20 = rs2 at *
  generalize fd a 31 26 = hi at *
  generalize fd a 25 20 = sh at *
  have HS : ∃ u, (regF true s x) = u ∧ ((s = 0 ∧ pk ([1, 3, 4, 5, 6, 7, 9, 10] : List Int) x = u) ∨ (s = 32 ∧ pk ([2, 0, 0, 0, 0, 8, 0, 0] : List Int) x = u) ∨ (s = 1 ∧ pk ([11, 12, 13, 14, 15, 16, 17, 18] : List Int) x = u) ∨ (¬ s = 0 ∧ ¬ s = 32 ∧ ¬ s = 1 ∧ u = 0)) := by
    refine ⟨_, rfl, ?_⟩
    by_cases c0 : s = 0
    · subst c0; exact .inl ⟨rfl, rfl⟩
    by_cases c1 : s = 32
    · subst c1; exact .inr (.inl ⟨rfl, (pk_pad ([2, 0, 0, 0, 0, 8] : List Int) ([2, 0, 0, 0, 0, 8, 0, 0] : List Int) (by decide) x HX.out).symm⟩)
    by_cases c2 : s = 1
    · subst c2; exact .inr (.inr (.inl ⟨rfl, rfl⟩))
    exact .inr (.inr (.inr ⟨c0, c1, c2, by simp [regF, c0, c1, c2]⟩))
  obtain ⟨u, hr, hs⟩ := HS
  rw [hr]
  clear hr
  obtain ⟨E_, hEq⟩ : ∃ E_, (if u = 0 then none else some ⟨8, u, rd, rs1, rs2, 0, 0, false⟩ : Option Ins) = E_ := ⟨_, rfl⟩
  rw [hEq]
  have hd : (u = 0 ∧ E_ = none) ∨ (¬ (u = 0) ∧ E_ = some ⟨8, u, rd, rs1, rs2, 0, 0, false⟩) := by
    by_cases c0 : u = 0
    · exact Or.inl ⟨c0, by rw [← hEq]; simp [c0]⟩
    · exact Or.inr (⟨c0, by rw [← hEq]; simp [c0]⟩)
  clear hEq
  rcases hd with ⟨c0, hE⟩ | ⟨c0, hE⟩
  all_goals subst hE
  all_goals rcases hs with ⟨c1, hu⟩ | ⟨c1, hu⟩ | ⟨c1, hu⟩ | ⟨c1, c2, c3, hu⟩
  all_goals (try (exfalso; omega))
  all_goals (
    go_enter Tryz.func100, Tryz.ntmps100
    go_wp2_with (first
 | (go_at_call 65; (with_reducible refine (T0.out _).mono ?_); rintro e w' ⟨rfl, hb⟩; (try replace PB := Lib.hid (PB.out.below hb)); replace ST := Lib.hid (ST.out.call hb); clear hb)
 | (go_at_call 65; (with_reducible refine (T1.out _).mono ?_); rintro e w' ⟨rfl, hb⟩; (try replace PB := Lib.hid (PB.out.below hb)); replace ST := Lib.hid (ST.out.call hb); clear hb)
 | (go_at_call 65; (with_reducible refine (T2.out _).mono ?_); rintro e w' ⟨rfl, hb⟩; (try replace PB := Lib.hid (PB.out.below hb)); replace ST := Lib.hid (ST.out.call hb); clear hb)
 | (go_at_call 65; (with_reducible refine (T3.out _).mono ?_); rintro e w' ⟨rfl, hb⟩; (try replace PB := Lib.hid (PB.out.below hb)); replace ST := Lib.hid (ST.out.call hb); clear hb)
 | (go_at_call 65; (with_reducible refine (T4.out _).mono ?_); rintro e w' ⟨rfl, hb⟩; (try replace PB := Lib.hid (PB.out.below hb)); replace ST := Lib.hid (ST.out.call hb); clear hb)
 | (go_at_call 65; (with_reducible refine (TO.out _).mono ?_); rintro e w' ⟨rfl, hb⟩; (try replace PB := Lib.hid (PB.out.below hb)); replace ST := Lib.hid (ST.out.call hb); clear hb)
 | ((with_reducible refine Step.gate_build (t := 124) rfl ?_); refine Step.freshSlice (cs := #[.int .i64 1, .int .i64 3, .int .i64 4, .int .i64 5, .int .i64 6, .int .i64 7, .int .i64 9, .int .i64 10]) (T := 3) (n := 8) (m := 8) rfl ?hr ?_; (case hr => go_simp); intro g9 w1 b hg hb; have PB := Lib.hid (show Blk w1 g9 (Enc.ints ([1, 3, 4, 5, 6, 7, 9, 10] : List Int)) _ from b); replace ST := Lib.hid (ST.out.call hb); clear b hb hg)
 | ((with_reducible refine Step.gate_build (t := 124) rfl ?_); refine Step.freshSlice (cs := #[.int .i64 2, .int .i64 0, .int .i64 0, .int .i64 0, .int .i64 0, .int .i64 8, .int .i64 0, .int .i64 0]) (T := 3) (n := 8) (m := 8) rfl ?hr ?_; (case hr => go_simp); intro g9 w1 b hg hb; have PB := Lib.hid (show Blk w1 g9 (Enc.ints ([2, 0, 0, 0, 0, 8, 0, 0] : List Int)) _ from b); replace ST := Lib.hid (ST.out.call hb); clear b hb hg)
 | ((with_reducible refine Step.gate_build (t := 124) rfl ?_); refine Step.freshSlice (cs := #[.int .i64 11, .int .i64 12, .int .i64 13, .int .i64 14, .int .i64 15, .int .i64 16, .int .i64 17, .int .i64 18]) (T := 3) (n := 8) (m := 8) rfl ?hr ?_; (case hr => go_simp); intro g9 w1 b hg hb; have PB := Lib.hid (show Blk w1 g9 (Enc.ints ([11, 12, 13, 14, 15, 16, 17, 18] : List Int)) _ from b); replace ST := Lib.hid (ST.out.call hb); clear b hb hg)
 | (go_at_call 67; (with_reducible refine (rpick_any (n := 8) PB.out ([1, 3, 4, 5, 6, 7, 9, 10] : List Int) rfl rfl (by decide) _ (by first | exact small HX.out (by decide))).mono ?_); rintro e w' ⟨rfl, hb⟩; clear PB; replace ST := Lib.hid (ST.out.call hb); clear hb; (try rw [hu]))
 | (go_at_call 67; (with_reducible refine (rpick_any (n := 8) PB.out ([2, 0, 0, 0, 0, 8, 0, 0] : List Int) rfl rfl (by decide) _ (by first | exact small HX.out (by decide))).mono ?_); rintro e w' ⟨rfl, hb⟩; clear PB; replace ST := Lib.hid (ST.out.call hb); clear hb; (try rw [hu]))
 | (go_at_call 67; (with_reducible refine (rpick_any (n := 8) PB.out ([11, 12, 13, 14, 15, 16, 17, 18] : List Int) rfl rfl (by decide) _ (by first | exact small HX.out (by decide))).mono ?_); rintro e w' ⟨rfl, hb⟩; clear PB; replace ST := Lib.hid (ST.out.call hb); clear hb; (try rw [hu]))
 | (refine Step.freshAlloc rfl rfl (alloc_agg zero_inst) ?_; intro g2 w2 b hg hb; replace ST := Lib.hid (ST.out.more b hg hb); clear b hg hb)
 | (refine Step.freshAlloc rfl rfl (alloc_agg zero_inst) ?_; intro g1 w1 b hg hb; have ST := Lib.hid (S1.made b hg hb); clear b hg hb)
 | (refine Step.storeAll ST.out.one rfl rfl rfl rfl rfl size_inst rfl rfl ?_; intro w3 nb m; replace ST := Lib.hid (ST.out.set1 nb m); clear nb m)
 | (refine Step.store ST.out.two rfl rfl rfl rfl rfl pl_int rfl rfl ?_; intro w3 nb m; replace ST := Lib.hid (ST.out.set2 nb m); clear nb m)
 | (refine Step.storeAll ST.out.two rfl rfl rfl rfl rfl size_inst rfl rfl ?_; intro w3 nb m; replace ST := Lib.hid (ST.out.set2 nb m); clear nb m)
 | (refine Step.load ST.out.two rfl rfl rfl pl_int rfl ?_)
 | (refine Step.loadAll ST.out.two rfl rfl rfl Tryz.underlying85 rfl size_inst ?_))
    refine bodyPost_ret (results_row_tmp rfl _ _ g1 _ _ _ rfl ST.out.one Tryz.underlying85 rfl size_inst) rfl ⟨rfl, ST.out.below⟩)
set_option maxHeartbeats 8000000 in
theorem rdec_59 (a : Int) (ha : W32 a) (hop : fd a 6 0 = 59) (w : World) : Calls Tryz.prog 100 #[.int .u32 a] w fun e w' => e = .returned (told (decOp 59 a)) ∧ Below w.heap.size w w' := by
  have T0 := Lib.hid (fun w => calls_below (rbits_any a 14 12 14 12 ha rfl rfl (by decide) (by decide) w))
  have T1 := Lib.hid (fun w => calls_below (rbits_any a 31 25 31 25 ha rfl rfl (by decide) (by decide) w))
  have T2 := Lib.hid (fun w => calls_below (rbits_any a 11 7 11 7 ha rfl rfl (by decide) (by decide) w))
  have T3 := Lib.hid (fun w => calls_below (rbits_any a 19 15 19 15 ha rfl rfl (by decide) (by decide) w))
  have T4 := Lib.hid (fun w => calls_below (rbits_any a 24 20 24 20 ha rfl rfl (by decide) (by decide) w))
  have T5 := Lib.hid (fun w => calls_below (rbits_any a 31 26 31 26 ha rfl rfl (by decide) (by decide) w))
  have T6 := Lib.hid (fun w => calls_below (rbits_any a 25 20 25 20 ha rfl rfl (by decide) (by decide) w))
  have TO := Lib.hid (fun w => calls_below (rbits_any a 6 0 6 0 ha rfl rfl (by decide) (by decide) w))
  have HX := Lib.hid (fd_lit (a := a) (h := 14) (l := 12) (n := 8) rfl)
  rw [hop] at TO
  clear hop
  rw [show decOp 59 a = (if (regF false (fd a 31 25) (fd a 14 12)) = 0 then none else some ⟨8, (regF false (fd a 31 25) (fd a 14 12)), (fd a 11 7), (fd a 19 15), (fd a 24 20), 0, 0, false⟩ : Option Ins) from by simp [decOp]]
  generalize fd a 14 12 = x at *
  generalize fd a 31 25 = s at *
  generalize fd a 11 7 = rd at *
  generalize fd a 19 15 = rs1 at *
  generalize fd a 24 20 = rs2 at *
  generalize fd a 31 26 = hi at *
  generalize fd a 25 20 = sh at *
  have HS : ∃ u, (regF false s x) = u ∧ ((s = 0 ∧ pk ([19, 21, 0, 0, 0, 22, 0, 0] : List Int) x = u) ∨ (s = 32 ∧ pk ([20, 0, 0, 0, 0, 23, 0, 0] : List Int) x = u) ∨ (s = 1 ∧ pk ([24, 0, 0, 0, 25, 26, 27, 28] : List Int) x = u) ∨ (¬ s = 0 ∧ ¬ s = 32 ∧ ¬ s = 1 ∧ u = 0)) := by
    refine ⟨_, rfl, ?_⟩
    by_cases c0 : s = 0
    · subst c0; exact .inl ⟨rfl, (pk_pad ([19, 21, 0, 0, 0, 22] : List Int) ([19, 21, 0, 0, 0, 22, 0, 0] : List Int) (by decide) x HX.out).symm⟩
    by_cases c1 : s = 32
    · subst c1; exact .inr (.inl ⟨rfl, (pk_pad ([20, 0, 0, 0, 0, 23] : List Int) ([20, 0, 0, 0, 0, 23, 0, 0] : List Int) (by decide) x HX.out).symm⟩)
    by_cases c2 : s = 1
    · subst c2; exact .inr (.inr (.inl ⟨rfl, rfl⟩))
    exact .inr (.inr (.inr ⟨c0, c1, c2, by simp [regF, c0, c1, c2]⟩))
  obtain ⟨u, hr, hs⟩ := HS
  rw [hr]
  clear hr
  obtain ⟨E_, hEq⟩ : ∃ E_, (if u = 0 then none else some ⟨8, u, rd, rs1, rs2, 0, 0, false⟩ : Option Ins) = E_ := ⟨_, rfl⟩
  rw [hEq]
  have hd : (u = 0 ∧ E_ = none) ∨ (¬ (u = 0) ∧ E_ = some ⟨8, u, rd, rs1, rs2, 0, 0, false⟩) := by
    by_cases c0 : u = 0
    · exact Or.inl ⟨c0, by rw [← hEq]; simp [c0]⟩
    · exact Or.inr (⟨c0, by rw [← hEq]; simp [c0]⟩)
  clear hEq
  rcases hd with ⟨c0, hE⟩ | ⟨c0, hE⟩
  all_goals subst hE
  all_goals rcases hs with ⟨c1, hu⟩ | ⟨c1, hu⟩ | ⟨c1, hu⟩ | ⟨c1, c2, c3, hu⟩
  all_goals (try (exfalso; omega))
  all_goals (
    go_enter Tryz.func100, Tryz.ntmps100
    go_wp2_with (first
 | (go_at_call 65; (with_reducible refine (T0.out _).mono ?_); rintro e w' ⟨rfl, hb⟩; (try replace PB := Lib.hid (PB.out.below hb)); replace ST := Lib.hid (ST.out.call hb); clear hb)
 | (go_at_call 65; (with_reducible refine (T1.out _).mono ?_); rintro e w' ⟨rfl, hb⟩; (try replace PB := Lib.hid (PB.out.below hb)); replace ST := Lib.hid (ST.out.call hb); clear hb)
 | (go_at_call 65; (with_reducible refine (T2.out _).mono ?_); rintro e w' ⟨rfl, hb⟩; (try replace PB := Lib.hid (PB.out.below hb)); replace ST := Lib.hid (ST.out.call hb); clear hb)
 | (go_at_call 65; (with_reducible refine (T3.out _).mono ?_); rintro e w' ⟨rfl, hb⟩; (try replace PB := Lib.hid (PB.out.below hb)); replace ST := Lib.hid (ST.out.call hb); clear hb)
 | (go_at_call 65; (with_reducible refine (T4.out _).mono ?_); rintro e w' ⟨rfl, hb⟩; (try replace PB := Lib.hid (PB.out.below hb)); replace ST := Lib.hid (ST.out.call hb); clear hb)
 | (go_at_call 65; (with_reducible refine (TO.out _).mono ?_); rintro e w' ⟨rfl, hb⟩; (try replace PB := Lib.hid (PB.out.below hb)); replace ST := Lib.hid (ST.out.call hb); clear hb)
 | ((with_reducible refine Step.gate_build (t := 124) rfl ?_); refine Step.freshSlice (cs := #[.int .i64 19, .int .i64 21, .int .i64 0, .int .i64 0, .int .i64 0, .int .i64 22, .int .i64 0, .int .i64 0]) (T := 3) (n := 8) (m := 8) rfl ?hr ?_; (case hr => go_simp); intro g9 w1 b hg hb; have PB := Lib.hid (show Blk w1 g9 (Enc.ints ([19, 21, 0, 0, 0, 22, 0, 0] : List Int)) _ from b); replace ST := Lib.hid (ST.out.call hb); clear b hb hg)
 | ((with_reducible refine Step.gate_build (t := 124) rfl ?_); refine Step.freshSlice (cs := #[.int .i64 20, .int .i64 0, .int .i64 0, .int .i64 0, .int .i64 0, .int .i64 23, .int .i64 0, .int .i64 0]) (T := 3) (n := 8) (m := 8) rfl ?hr ?_; (case hr => go_simp); intro g9 w1 b hg hb; have PB := Lib.hid (show Blk w1 g9 (Enc.ints ([20, 0, 0, 0, 0, 23, 0, 0] : List Int)) _ from b); replace ST := Lib.hid (ST.out.call hb); clear b hb hg)
 | ((with_reducible refine Step.gate_build (t := 124) rfl ?_); refine Step.freshSlice (cs := #[.int .i64 24, .int .i64 0, .int .i64 0, .int .i64 0, .int .i64 25, .int .i64 26, .int .i64 27, .int .i64 28]) (T := 3) (n := 8) (m := 8) rfl ?hr ?_; (case hr => go_simp); intro g9 w1 b hg hb; have PB := Lib.hid (show Blk w1 g9 (Enc.ints ([24, 0, 0, 0, 25, 26, 27, 28] : List Int)) _ from b); replace ST := Lib.hid (ST.out.call hb); clear b hb hg)
 | (go_at_call 67; (with_reducible refine (rpick_any (n := 8) PB.out ([19, 21, 0, 0, 0, 22, 0, 0] : List Int) rfl rfl (by decide) _ (by first | exact small HX.out (by decide))).mono ?_); rintro e w' ⟨rfl, hb⟩; clear PB; replace ST := Lib.hid (ST.out.call hb); clear hb; (try rw [hu]))
 | (go_at_call 67; (with_reducible refine (rpick_any (n := 8) PB.out ([20, 0, 0, 0, 0, 23, 0, 0] : List Int) rfl rfl (by decide) _ (by first | exact small HX.out (by decide))).mono ?_); rintro e w' ⟨rfl, hb⟩; clear PB; replace ST := Lib.hid (ST.out.call hb); clear hb; (try rw [hu]))
 | (go_at_call 67; (with_reducible refine (rpick_any (n := 8) PB.out ([24, 0, 0, 0, 25, 26, 27, 28] : List Int) rfl rfl (by decide) _ (by first | exact small HX.out (by decide))).mono ?_); rintro e w' ⟨rfl, hb⟩; clear PB; replace ST := Lib.hid (ST.out.call hb); clear hb; (try rw [hu]))
 | (refine Step.freshAlloc rfl rfl (alloc_agg zero_inst) ?_; intro g2 w2 b hg hb; replace ST := Lib.hid (ST.out.more b hg hb); clear b hg hb)
 | (refine Step.freshAlloc rfl rfl (alloc_agg zero_inst) ?_; intro g1 w1 b hg hb; have ST := Lib.hid (S1.made b hg hb); clear b hg hb)
 | (refine Step.storeAll ST.out.one rfl rfl rfl rfl rfl size_inst rfl rfl ?_; intro w3 nb m; replace ST := Lib.hid (ST.out.set1 nb m); clear nb m)
 | (refine Step.store ST.out.two rfl rfl rfl rfl rfl pl_int rfl rfl ?_; intro w3 nb m; replace ST := Lib.hid (ST.out.set2 nb m); clear nb m)
 | (refine Step.storeAll ST.out.two rfl rfl rfl rfl rfl size_inst rfl rfl ?_; intro w3 nb m; replace ST := Lib.hid (ST.out.set2 nb m); clear nb m)
 | (refine Step.load ST.out.two rfl rfl rfl pl_int rfl ?_)
 | (refine Step.loadAll ST.out.two rfl rfl rfl Tryz.underlying85 rfl size_inst ?_))
    refine bodyPost_ret (results_row_tmp rfl _ _ g1 _ _ _ rfl ST.out.one Tryz.underlying85 rfl size_inst) rfl ⟨rfl, ST.out.below⟩)
set_option maxHeartbeats 8000000 in
theorem rdec_115_of (a : Int) (ha : W32 a) (hop : fd a 6 0 = 115) (d : Option Ins) (TS : Hid (∀ w, Calls Tryz.prog 124 #[.int .u32 a, .int .i64 (fd a 14 12), .int .i64 (fd a 31 25), .int .i64 (fd a 11 7), .int .i64 (fd a 19 15), .int .i64 (fd a 24 20)] w fun e w' => e = .returned (told d) ∧ Below w.heap.size w w')) (w : World) : Calls Tryz.prog 100 #[.int .u32 a] w fun e w' => e = .returned (told d) ∧ Below w.heap.size w w' := by
  have T0 := Lib.hid (fun w => calls_below (rbits_any a 14 12 14 12 ha rfl rfl (by decide) (by decide) w))
  have T1 := Lib.hid (fun w => calls_below (rbits_any a 31 25 31 25 ha rfl rfl (by decide) (by decide) w))
  have T2 := Lib.hid (fun w => calls_below (rbits_any a 11 7 11 7 ha rfl rfl (by decide) (by decide) w))
  have T3 := Lib.hid (fun w => calls_below (rbits_any a 19 15 19 15 ha rfl rfl (by decide) (by decide) w))
  have T4 := Lib.hid (fun w => calls_below (rbits_any a 24 20 24 20 ha rfl rfl (by decide) (by decide) w))
  have T5 := Lib.hid (fun w => calls_below (rbits_any a 31 26 31 26 ha rfl rfl (by decide) (by decide) w))
  have T6 := Lib.hid (fun w => calls_below (rbits_any a 25 20 25 20 ha rfl rfl (by decide) (by decide) w))
  have TO := Lib.hid (fun w => calls_below (rbits_any a 6 0 6 0 ha rfl rfl (by decide) (by decide) w))
  have HX := Lib.hid (fd_lit (a := a) (h := 14) (l := 12) (n := 8) rfl)
  rw [hop] at TO
  clear hop
  generalize fd a 14 12 = x at *
  generalize fd a 31 25 = s at *
  generalize fd a 11 7 = rd at *
  generalize fd a 19 15 = rs1 at *
  generalize fd a 24 20 = rs2 at *
  generalize fd a 31 26 = hi at *
  generalize fd a 25 20 = sh at *
  have hs : ∃ r1 r2 r3 r4 r5 r6 r7 r8 r9, told d = .tuple #[.agg #[.int .i64 r1, .int .i64 r2, .int .i64 r3, .int .i64 r4, .int .i64 r5, .int .i64 r6, .int .i64 r7, .bool r8], .bool r9] := by
    cases d with
    | none => exact ⟨_, _, _, _, _, _, _, _, _, rfl⟩
    | some j => exact ⟨_, _, _, _, _, _, _, _, _, rfl⟩
  obtain ⟨r1, r2, r3, r4, r5, r6, r7, r8, r9, hs⟩ := hs
  rw [hs] at TS ⊢
  clear hs
  go_enter Tryz.func100, Tryz.ntmps100
  go_wp2_with (first
 | (go_at_call 65; (with_reducible refine (T0.out _).mono ?_); rintro e w' ⟨rfl, hb⟩; replace ST := Lib.hid (ST.out.call hb); clear hb)
 | (go_at_call 65; (with_reducible refine (T1.out _).mono ?_); rintro e w' ⟨rfl, hb⟩; replace ST := Lib.hid (ST.out.call hb); clear hb)
 | (go_at_call 65; (with_reducible refine (T2.out _).mono ?_); rintro e w' ⟨rfl, hb⟩; replace ST := Lib.hid (ST.out.call hb); clear hb)
 | (go_at_call 65; (with_reducible refine (T3.out _).mono ?_); rintro e w' ⟨rfl, hb⟩; replace ST := Lib.hid (ST.out.call hb); clear hb)
 | (go_at_call 65; (with_reducible refine (T4.out _).mono ?_); rintro e w' ⟨rfl, hb⟩; replace ST := Lib.hid (ST.out.call hb); clear hb)
 | (go_at_call 65; (with_reducible refine (TO.out _).mono ?_); rintro e w' ⟨rfl, hb⟩; replace ST := Lib.hid (ST.out.call hb); clear hb)
 | (go_at_call 124; (with_reducible refine (TS.out _).mono ?_); rintro e w' ⟨rfl, hb⟩; replace ST := Lib.hid (ST.out.call hb); clear hb)
 | (refine Step.freshAlloc rfl rfl (alloc_agg zero_inst) ?_; intro g2 w2 b hg hb; replace ST := Lib.hid (ST.out.more b hg hb); clear b hg hb)
 | (refine Step.freshAlloc rfl rfl (alloc_agg zero_inst) ?_; intro g1 w1 b hg hb; have ST := Lib.hid (S1.made b hg hb); clear b hg hb)
 | (refine Step.storeAll ST.out.one rfl rfl rfl rfl rfl size_inst rfl rfl ?_; intro w3 nb m; replace ST := Lib.hid (ST.out.set1 nb m); clear nb m)
 | (refine Step.storeAll ST.out.two rfl rfl rfl rfl rfl size_inst rfl rfl ?_; intro w3 nb m; replace ST := Lib.hid (ST.out.set2 nb m); clear nb m))
  refine bodyPost_ret (results_row_tmp rfl _ _ g1 _ _ _ rfl ST.out.one Tryz.underlying85 rfl size_inst) rfl ⟨rfl, ST.out.below⟩
end Go.Proofs.YtchpnbckgofiaaaGreat.Enc
end
