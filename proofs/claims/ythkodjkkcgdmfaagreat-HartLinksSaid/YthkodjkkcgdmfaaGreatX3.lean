/- Parts of the walks and laws for the claim: DecS; no conditions beyond the theorems' own. -/
import Derived.Test.YthkodjkkcgdmfaaGreatT11
import Derived.Test.YthkodjkkcgdmfaaGreatT23
import Derived.Test.YthkodjkkcgdmfaaGreatX1
import Derived.Test.YthkodjkkcgdmfaaGreatX2
section
namespace Go.Proofs.YthkodjkkcgdmfaaGreat.Enc
open Go Go.RowKit Go.Proofs.YthkodjkkcgdmfaaGreat.Step
set_option linter.unusedVariables false
set_option linter.unusedSimpArgs false
set_option maxRecDepth 100000
set_option maxHeartbeats 8000000 in
theorem rdec_111 (a : Int) (ha : W32 a) (hop : fd a 6 0 = 111) (w : World) : Calls Tryz.prog 45 #[.int .u32 a] w fun e w' => e = .returned (told (decOp 111 a)) ∧ Below w.heap.size w w' := by
  have T0 := Lib.hid (fun w => calls_below (rbits_any a 14 12 14 12 ha rfl rfl (by decide) (by decide) w))
  have T1 := Lib.hid (fun w => calls_below (rbits_any a 31 25 31 25 ha rfl rfl (by decide) (by decide) w))
  have T2 := Lib.hid (fun w => calls_below (rbits_any a 11 7 11 7 ha rfl rfl (by decide) (by decide) w))
  have T3 := Lib.hid (fun w => calls_below (rbits_any a 19 15 19 15 ha rfl rfl (by decide) (by decide) w))
  have T4 := Lib.hid (fun w => calls_below (rbits_any a 24 20 24 20 ha rfl rfl (by decide) (by decide) w))
  have T5 := Lib.hid (fun w => calls_below (rbits_any a 31 26 31 26 ha rfl rfl (by decide) (by decide) w))
  have T6 := Lib.hid (fun w => calls_below (rbits_any a 25 20 25 20 ha rfl rfl (by decide) (by decide) w))
  have TO := Lib.hid (fun w => calls_below (rbits_any a 6 0 6 0 ha rfl rfl (by decide) (by decide) w))
  have HX := Lib.hid (fd_lit (a := a) (h := 14) (l := 12) (n := 8) rfl)
  rw [hop] at TO
  clear hop
  have TM := Lib.hid (fun w => calls_below (rj_any a ha w))
  rw [show decOp 111 a = (some ⟨3, 0, (fd a 11 7), 0, 0, (immJ a), 0, false⟩ : Option Ins) from by simp [decOp]]
  generalize immJ a = m at *
  generalize fd a 14 12 = x at *
  generalize fd a 31 25 = s at *
  generalize fd a 11 7 = rd at *
  generalize fd a 19 15 = rs1 at *
  generalize fd a 24 20 = rs2 at *
  generalize fd a 31 26 = hi at *
  generalize fd a 25 20 = sh at *
  go_enter Tryz.func45, Tryz.ntmps45
  go_wp2_with (first
    | (go_at_call 70; (with_reducible refine (T0.out _).mono ?_); rintro e w' ⟨rfl, hb⟩; (try replace PB := Lib.hid (PB.out.below hb)); replace ST := Lib.hid (ST.out.call hb); clear hb)
    | (go_at_call 70; (with_reducible refine (T1.out _).mono ?_); rintro e w' ⟨rfl, hb⟩; (try replace PB := Lib.hid (PB.out.below hb)); replace ST := Lib.hid (ST.out.call hb); clear hb)
    | (go_at_call 70; (with_reducible refine (T2.out _).mono ?_); rintro e w' ⟨rfl, hb⟩; (try replace PB := Lib.hid (PB.out.below hb)); replace ST := Lib.hid (ST.out.call hb); clear hb)
    | (go_at_call 70; (with_reducible refine (T3.out _).mono ?_); rintro e w' ⟨rfl, hb⟩; (try replace PB := Lib.hid (PB.out.below hb)); replace ST := Lib.hid (ST.out.call hb); clear hb)
    | (go_at_call 70; (with_reducible refine (T4.out _).mono ?_); rintro e w' ⟨rfl, hb⟩; (try replace PB := Lib.hid (PB.out.below hb)); replace ST := Lib.hid (ST.out.call hb); clear hb)
    | (go_at_call 70; (with_reducible refine (T5.out _).mono ?_); rintro e w' ⟨rfl, hb⟩; (try replace PB := Lib.hid (PB.out.below hb)); replace ST := Lib.hid (ST.out.call hb); clear hb)
    | (go_at_call 70; (with_reducible refine (T6.out _).mono ?_); rintro e w' ⟨rfl, hb⟩; (try replace PB := Lib.hid (PB.out.below hb)); replace ST := Lib.hid (ST.out.call hb); clear hb)
    | (go_at_call 70; (with_reducible refine (TO.out _).mono ?_); rintro e w' ⟨rfl, hb⟩; (try replace PB := Lib.hid (PB.out.below hb)); replace ST := Lib.hid (ST.out.call hb); clear hb)
    | (go_at_call 72; (with_reducible refine (TM.out _).mono ?_); rintro e w' ⟨rfl, hb⟩; (try replace PB := Lib.hid (PB.out.below hb)); replace ST := Lib.hid (ST.out.call hb); clear hb)
    | ((with_reducible refine Step.gate_alloc (t := 44) rfl ?_); refine Step.freshAlloc rfl rfl (alloc_agg zero_inst) ?_; intro g2 w2 b hg hb; replace ST := Lib.hid (ST.out.more b hg hb); clear b hg hb)
    | ((with_reducible refine Step.gate_alloc (t := 44) rfl ?_); refine Step.freshAlloc rfl rfl (alloc_agg zero_inst) ?_; intro g1 w1 b hg hb; have ST := Lib.hid (S1.made b hg hb); clear b hg hb)
    | ((with_reducible refine Step.gate_store (t := 3) rfl ?_); refine Step.store ST.out.one rfl rfl rfl rfl rfl pl_int rfl rfl ?_; intro w3 nb m; replace ST := Lib.hid (ST.out.set1 nb m); clear nb m)
    | ((with_reducible refine Step.gate_store (t := 4) rfl ?_); refine Step.store ST.out.one rfl rfl rfl rfl rfl pl_bool rfl rfl ?_; intro w3 nb m; replace ST := Lib.hid (ST.out.set1 nb m); clear nb m)
    | ((with_reducible refine Step.gate_store (t := 44) rfl ?_); refine Step.storeAll ST.out.one rfl rfl rfl rfl rfl size_inst rfl rfl ?_; intro w3 nb m; replace ST := Lib.hid (ST.out.set1 nb m); clear nb m)
    | ((with_reducible refine Step.gate_load (t := 3) rfl ?_); refine Step.load ST.out.one rfl rfl rfl pl_int rfl ?_)
    | ((with_reducible refine Step.gate_load (t := 4) rfl ?_); refine Step.load ST.out.one rfl rfl rfl pl_bool rfl ?_)
    | ((with_reducible refine Step.gate_load (t := 44) rfl ?_); refine Step.loadAll ST.out.one rfl rfl rfl Tryz.underlying44 rfl size_inst ?_)
    | ((with_reducible refine Step.gate_store (t := 3) rfl ?_); refine Step.store ST.out.two rfl rfl rfl rfl rfl pl_int rfl rfl ?_; intro w3 nb m; replace ST := Lib.hid (ST.out.set2 nb m); clear nb m)
    | ((with_reducible refine Step.gate_store (t := 4) rfl ?_); refine Step.store ST.out.two rfl rfl rfl rfl rfl pl_bool rfl rfl ?_; intro w3 nb m; replace ST := Lib.hid (ST.out.set2 nb m); clear nb m)
    | ((with_reducible refine Step.gate_store (t := 44) rfl ?_); refine Step.storeAll ST.out.two rfl rfl rfl rfl rfl size_inst rfl rfl ?_; intro w3 nb m; replace ST := Lib.hid (ST.out.set2 nb m); clear nb m)
    | ((with_reducible refine Step.gate_load (t := 3) rfl ?_); refine Step.load ST.out.two rfl rfl rfl pl_int rfl ?_)
    | ((with_reducible refine Step.gate_load (t := 4) rfl ?_); refine Step.load ST.out.two rfl rfl rfl pl_bool rfl ?_)
    | ((with_reducible refine Step.gate_load (t := 44) rfl ?_); refine Step.loadAll ST.out.two rfl rfl rfl Tryz.underlying44 rfl size_inst ?_))
  refine bodyPost_ret (results_row_tmp rfl _ _ g1 _ _ _ rfl ST.out.one Tryz.underlying44 rfl size_inst) rfl ⟨rfl, ST.out.below⟩
set_option maxHeartbeats 8000000 in
theorem rdec_99 (a : Int) (ha : W32 a) (hop : fd a 6 0 = 99) (w : World) : Calls Tryz.prog 45 #[.int .u32 a] w fun e w' => e = .returned (told (decOp 99 a)) ∧ Below w.heap.size w w' := by
  have T0 := Lib.hid (fun w => calls_below (rbits_any a 14 12 14 12 ha rfl rfl (by decide) (by decide) w))
  have T1 := Lib.hid (fun w => calls_below (rbits_any a 31 25 31 25 ha rfl rfl (by decide) (by decide) w))
  have T2 := Lib.hid (fun w => calls_below (rbits_any a 11 7 11 7 ha rfl rfl (by decide) (by decide) w))
  have T3 := Lib.hid (fun w => calls_below (rbits_any a 19 15 19 15 ha rfl rfl (by decide) (by decide) w))
  have T4 := Lib.hid (fun w => calls_below (rbits_any a 24 20 24 20 ha rfl rfl (by decide) (by decide) w))
  have T5 := Lib.hid (fun w => calls_below (rbits_any a 31 26 31 26 ha rfl rfl (by decide) (by decide) w))
  have T6 := Lib.hid (fun w => calls_below (rbits_any a 25 20 25 20 ha rfl rfl (by decide) (by decide) w))
  have TO := Lib.hid (fun w => calls_below (rbits_any a 6 0 6 0 ha rfl rfl (by decide) (by decide) w))
  have HX := Lib.hid (fd_lit (a := a) (h := 14) (l := 12) (n := 8) rfl)
  rw [hop] at TO
  clear hop
  have TM := Lib.hid (fun w => calls_below (rb_any a ha w))
  rw [show decOp 99 a = (if pk brL (fd a 14 12) = 0 then none else some ⟨5, pk brL (fd a 14 12), 0, (fd a 19 15), (fd a 24 20), (immB a), 0, false⟩ : Option Ins) from by simp [decOp]]
  generalize immB a = m at *
  generalize fd a 14 12 = x at *
  generalize fd a 31 25 = s at *
  generalize fd a 11 7 = rd at *
  generalize fd a 19 15 = rs1 at *
  generalize fd a 24 20 = rs2 at *
  generalize fd a 31 26 = hi at *
  generalize fd a 25 20 = sh at *
  obtain ⟨u, hu⟩ : ∃ u, pk ([1, 2, 0, 0, 3, 4, 5, 6] : List Int) x = u := ⟨_, rfl⟩
  rw [show pk brL x = u from hu]
  obtain ⟨E_, hEq⟩ : ∃ E_, (if u = 0 then none else some ⟨5, u, 0, rs1, rs2, m, 0, false⟩ : Option Ins) = E_ := ⟨_, rfl⟩
  rw [hEq]
  have hd : (u = 0 ∧ E_ = none) ∨ (¬ (u = 0) ∧ E_ = some ⟨5, u, 0, rs1, rs2, m, 0, false⟩) := by
    by_cases c0 : u = 0
    · exact Or.inl ⟨c0, by rw [← hEq]; simp [c0]⟩
    · exact Or.inr (⟨c0, by rw [← hEq]; simp [c0]⟩)
  clear hEq
  rcases hd with ⟨c0, hE⟩ | ⟨c0, hE⟩
  all_goals subst hE
  all_goals (
    go_enter Tryz.func45, Tryz.ntmps45
    go_wp2_with (first
      | (go_at_call 70; (with_reducible refine (T0.out _).mono ?_); rintro e w' ⟨rfl, hb⟩; (try replace PB := Lib.hid (PB.out.below hb)); replace ST := Lib.hid (ST.out.call hb); clear hb)
      | (go_at_call 70; (with_reducible refine (T1.out _).mono ?_); rintro e w' ⟨rfl, hb⟩; (try replace PB := Lib.hid (PB.out.below hb)); replace ST := Lib.hid (ST.out.call hb); clear hb)
      | (go_at_call 70; (with_reducible refine (T2.out _).mono ?_); rintro e w' ⟨rfl, hb⟩; (try replace PB := Lib.hid (PB.out.below hb)); replace ST := Lib.hid (ST.out.call hb); clear hb)
      | (go_at_call 70; (with_reducible refine (T3.out _).mono ?_); rintro e w' ⟨rfl, hb⟩; (try replace PB := Lib.hid (PB.out.below hb)); replace ST := Lib.hid (ST.out.call hb); clear hb)
      | (go_at_call 70; (with_reducible refine (T4.out _).mono ?_); rintro e w' ⟨rfl, hb⟩; (try replace PB := Lib.hid (PB.out.below hb)); replace ST := Lib.hid (ST.out.call hb); clear hb)
      | (go_at_call 70; (with_reducible refine (T5.out _).mono ?_); rintro e w' ⟨rfl, hb⟩; (try replace PB := Lib.hid (PB.out.below hb)); replace ST := Lib.hid (ST.out.call hb); clear hb)
      | (go_at_call 70; (with_reducible refine (T6.out _).mono ?_); rintro e w' ⟨rfl, hb⟩; (try replace PB := Lib.hid (PB.out.below hb)); replace ST := Lib.hid (ST.out.call hb); clear hb)
      | (go_at_call 70; (with_reducible refine (TO.out _).mono ?_); rintro e w' ⟨rfl, hb⟩; (try replace PB := Lib.hid (PB.out.below hb)); replace ST := Lib.hid (ST.out.call hb); clear hb)
      | (go_at_call 74; (with_reducible refine (TM.out _).mono ?_); rintro e w' ⟨rfl, hb⟩; (try replace PB := Lib.hid (PB.out.below hb)); replace ST := Lib.hid (ST.out.call hb); clear hb)
      | ((with_reducible refine Step.gate_build (t := 53) rfl ?_); refine Step.freshSlice (cs := #[.int .i64 1, .int .i64 2, .int .i64 0, .int .i64 0, .int .i64 3, .int .i64 4, .int .i64 5, .int .i64 6]) (T := 3) (n := 8) (m := 8) rfl ?hr ?_; (case hr => first | (go_simp; done) | (go_simp; rfl)); intro g9 w1 b hg hb; have PB := Lib.hid (show Blk w1 g9 (Enc.ints ([1, 2, 0, 0, 3, 4, 5, 6] : List Int)) _ from b); replace ST := Lib.hid (ST.out.call hb); clear b hb hg)
      | (go_at_call 68; (with_reducible refine (rpick_any (n := 8) PB.out ([1, 2, 0, 0, 3, 4, 5, 6] : List Int) rfl rfl (by decide) _ (by first | exact small HX.out (by decide) | decide)).mono ?_); rintro e w' ⟨rfl, hb⟩; clear PB; replace ST := Lib.hid (ST.out.call hb); clear hb; (try rw [hu]))
      | ((with_reducible refine Step.gate_alloc (t := 44) rfl ?_); refine Step.freshAlloc rfl rfl (alloc_agg zero_inst) ?_; intro g2 w2 b hg hb; replace ST := Lib.hid (ST.out.more b hg hb); clear b hg hb)
      | ((with_reducible refine Step.gate_alloc (t := 44) rfl ?_); refine Step.freshAlloc rfl rfl (alloc_agg zero_inst) ?_; intro g1 w1 b hg hb; have ST := Lib.hid (S1.made b hg hb); clear b hg hb)
      | ((with_reducible refine Step.gate_store (t := 3) rfl ?_); refine Step.store ST.out.one rfl rfl rfl rfl rfl pl_int rfl rfl ?_; intro w3 nb m; replace ST := Lib.hid (ST.out.set1 nb m); clear nb m)
      | ((with_reducible refine Step.gate_store (t := 4) rfl ?_); refine Step.store ST.out.one rfl rfl rfl rfl rfl pl_bool rfl rfl ?_; intro w3 nb m; replace ST := Lib.hid (ST.out.set1 nb m); clear nb m)
      | ((with_reducible refine Step.gate_store (t := 44) rfl ?_); refine Step.storeAll ST.out.one rfl rfl rfl rfl rfl size_inst rfl rfl ?_; intro w3 nb m; replace ST := Lib.hid (ST.out.set1 nb m); clear nb m)
      | ((with_reducible refine Step.gate_load (t := 3) rfl ?_); refine Step.load ST.out.one rfl rfl rfl pl_int rfl ?_)
      | ((with_reducible refine Step.gate_load (t := 4) rfl ?_); refine Step.load ST.out.one rfl rfl rfl pl_bool rfl ?_)
      | ((with_reducible refine Step.gate_load (t := 44) rfl ?_); refine Step.loadAll ST.out.one rfl rfl rfl Tryz.underlying44 rfl size_inst ?_)
      | ((with_reducible refine Step.gate_store (t := 3) rfl ?_); refine Step.store ST.out.two rfl rfl rfl rfl rfl pl_int rfl rfl ?_; intro w3 nb m; replace ST := Lib.hid (ST.out.set2 nb m); clear nb m)
      | ((with_reducible refine Step.gate_store (t := 4) rfl ?_); refine Step.store ST.out.two rfl rfl rfl rfl rfl pl_bool rfl rfl ?_; intro w3 nb m; replace ST := Lib.hid (ST.out.set2 nb m); clear nb m)
      | ((with_reducible refine Step.gate_store (t := 44) rfl ?_); refine Step.storeAll ST.out.two rfl rfl rfl rfl rfl size_inst rfl rfl ?_; intro w3 nb m; replace ST := Lib.hid (ST.out.set2 nb m); clear nb m)
      | ((with_reducible refine Step.gate_load (t := 3) rfl ?_); refine Step.load ST.out.two rfl rfl rfl pl_int rfl ?_)
      | ((with_reducible refine Step.gate_load (t := 4) rfl ?_); refine Step.load ST.out.two rfl rfl rfl pl_bool rfl ?_)
      | ((with_reducible refine Step.gate_load (t := 44) rfl ?_); refine Step.loadAll ST.out.two rfl rfl rfl Tryz.underlying44 rfl size_inst ?_))
    refine bodyPost_ret (results_row_tmp rfl _ _ g1 _ _ _ rfl ST.out.one Tryz.underlying44 rfl size_inst) rfl ⟨rfl, ST.out.below⟩)
end Go.Proofs.YthkodjkkcgdmfaaGreat.Enc
end
