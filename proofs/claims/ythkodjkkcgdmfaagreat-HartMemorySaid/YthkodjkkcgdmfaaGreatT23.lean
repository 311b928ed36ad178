/- Parts of the walks and laws for the claim: DecS; no conditions beyond the theorems' own. -/
import Derived.Test.YthkodjkkcgdmfaaGreatT11
section
namespace Go.Proofs.YthkodjkkcgdmfaaGreat.Enc
open Go Go.RowKit Go.Proofs.YthkodjkkcgdmfaaGreat.Step
set_option linter.unusedVariables false
set_option linter.unusedSimpArgs false
set_option maxRecDepth 100000
set_option maxHeartbeats 8000000 in
theorem rdec_3 (a : Int) (ha : W32 a) (hop : fd a 6 0 = 3) (w : World) : Calls Tryz.prog 45 #[.int .u32 a] w fun e w' => e = .returned (told (decOp 3 a)) ∧ Below w.heap.size w w' := by
  have T0 := Lib.hid (fun w => calls_below (rbits_any a 14 12 14 12 ha rfl rfl (by decide) (by decide) w))
  have T1 := Lib.hid (fun w => calls_below (rbits_any a 31 25 31 25 ha rfl rfl (by decide) (by decide) w))
  have T2 := Lib.hid (fun w => calls_below (rbits_any a 11 7 11 7 ha rfl rfl (by decide) (by decide) w))
  have T3 := Lib.hid (fun w => calls_below (rbits_any a 19 15 19 15 ha rfl rfl (by decide) (by decide) w))
  have T4 := Lib.hid (fun w => calls_below (rbits_any a 24 20 24 20 ha rfl rfl (by decide) (by decide) w))
  have T5 := Lib.hid (fun w => calls_below (rbits_any a 31 26 31 26 ha rfl rfl (by decide) (by decide) w))
  have T6 := Lib.hid (fun w => calls_below (rbits_any a 25 20 25 20 ha rfl rfl (by decide) (by decide) w))
  have TO := Lib.hid (fun w => calls_below (rbits_any a 6 0 6 0 ha rfl rfl (by decide) (by decide) w))
  have HX := Lib.hid (fd_lit (a := a) (h := 14) (l := 12) (n := 8) rfl)
  rw [hop] at TO
  clear hop
  have TM := Lib.hid (fun w => calls_below (ri_any a ha w))
  rw [show decOp 3 a = (if (fd a 14 12) < 7 then some ⟨6, 0, (fd a 11 7), (fd a 19 15), 0, (immI a), pk ldL (fd a 14 12), (decide ((fd a 14 12) < 4))⟩ else none : Option Ins) from by simp [decOp]]
  generalize immI a = m at *
  generalize fd a 14 12 = x at *
  generalize fd a 31 25 = s at *
  generalize fd a 11 7 = rd at *
  generalize fd a 19 15 = rs1 at *
  generalize fd a 24 20 = rs2 at *
  generalize fd a 31 26 = hi at *
  generalize fd a 25 20 = sh at *
  obtain ⟨E_, hEq⟩ : ∃ E_, (if x < 7 then some ⟨6, 0, rd, rs1, 0, m, pk ldL x, (decide (x < 4))⟩ else none : Option Ins) = E_ := ⟨_, rfl⟩
  rw [hEq]
  have hd : (x = 0 ∧ E_ = some ⟨6, 0, rd, rs1, 0, m, 1, true⟩) ∨ (x = 1 ∧ E_ = some ⟨6, 0, rd, rs1, 0, m, 2, true⟩) ∨ (x = 2 ∧ E_ = some ⟨6, 0, rd, rs1, 0, m, 4, true⟩) ∨ (x = 3 ∧ E_ = some ⟨6, 0, rd, rs1, 0, m, 8, true⟩) ∨ (x = 4 ∧ E_ = some ⟨6, 0, rd, rs1, 0, m, 1, false⟩) ∨ (x = 5 ∧ E_ = some ⟨6, 0, rd, rs1, 0, m, 2, false⟩) ∨ (x = 6 ∧ E_ = some ⟨6, 0, rd, rs1, 0, m, 4, false⟩) ∨ (x = 7 ∧ E_ = none) := by
    have := HX.out
    rw [← hEq]
    obtain h | h | h | h | h | h | h | h : x = 0 ∨ x = 1 ∨ x = 2 ∨ x = 3 ∨ x = 4 ∨ x = 5 ∨ x = 6 ∨ x = 7 := by omega
    all_goals (subst h; simp [ldL, stL, pk])
  clear hEq
  have hu0 : pk ([1, 2, 4, 8, 1, 2, 4] : List Int) 0 = 1 := rfl
  have hu1 : pk ([1, 2, 4, 8, 1, 2, 4] : List Int) 1 = 2 := rfl
  have hu2 : pk ([1, 2, 4, 8, 1, 2, 4] : List Int) 2 = 4 := rfl
  have hu3 : pk ([1, 2, 4, 8, 1, 2, 4] : List Int) 3 = 8 := rfl
  have hu4 : pk ([1, 2, 4, 8, 1, 2, 4] : List Int) 4 = 1 := rfl
  have hu5 : pk ([1, 2, 4, 8, 1, 2, 4] : List Int) 5 = 2 := rfl
  have hu6 : pk ([1, 2, 4, 8, 1, 2, 4] : List Int) 6 = 4 := rfl
  have hu7 : pk ([1, 2, 4, 8, 1, 2, 4] : List Int) 7 = 0 := rfl
  rcases hd with ⟨c0, hE⟩ | ⟨c0, hE⟩ | ⟨c0, hE⟩ | ⟨c0, hE⟩ | ⟨c0, hE⟩ | ⟨c0, hE⟩ | ⟨c0, hE⟩ | ⟨c0, hE⟩
  all_goals subst hE
  all_goals subst c0
  all_goals (
    go_enter Tryz.func45, Tryz.ntmps45
    go_wp2_with (first
      | (go_at_call 70; (with_reducible refine (T0.out _).mono ?_); rintro e w' ⟨rfl, hb⟩; (try replace PB := Lib.hid (PB.out.below hb)); replace ST := Lib.hid (ST.out.call hb); clear hb)
      | (go_at_call 70; (with_reducible refine (T1.out _).mono ?_); rintro e w' ⟨rfl, hb⟩; (try replace PB := Lib.hid (PB.out.below hb)); replace ST := Lib.hid (ST.out.call hb); clear hb)
      | (go_at_call 70; (with_reducible refine (T2.out _).mono ?_); rintro e w' ⟨rfl, hb⟩; (try replace PB := Lib.hid (PB.out.below hb)); replace ST := Lib.hid (ST.out.call hb); clear hb)
      | (go_at_call 70; (with_reducible refine (T3.out _).mono ?_); rintro e w' ⟨rfl, hb⟩; (try replace PB := Lib.hid (PB.out.below hb)); replace ST := Lib.hid (ST.out.call hb); clear hb)
      | (go_at_call 70; (with_reducible refine (T4.out _).mono ?_); rintro e w' ⟨rfl, hb⟩; (try replace PB := Lib.hid (PB.out.below hb)); replace ST := Lib.hid (ST.out.call hb); clear hb)
      | (go_at_call 70; (with_reducible refine (T5.out _).mono ?_); rintro e w' ⟨rfl, hb⟩; (try replace PB := Lib.hid (PB.out.below hb)); replace ST := Lib.hid (ST.out.call hb); clear hb)
      | (go_at_call 70; (with_reducible refine (T6.out _).mono ?_); rintro e w' ⟨rfl, hb⟩; (try replace PB := Lib.hid (PB.out.below hb)); replace ST := Lib.hid (ST.out.call hb); clear hb)
      | (go_at_call 70; (with_reducible refine (TO.out _).mono ?_); rintro e w' ⟨rfl, hb⟩; (try replace PB := Lib.hid (PB.out.below hb)); replace ST := Lib.hid (ST.out.call hb); clear hb)
      | (go_at_call 73; (with_reducible refine (TM.out _).mono ?_); rintro e w' ⟨rfl, hb⟩; (try replace PB := Lib.hid (PB.out.below hb)); replace ST := Lib.hid (ST.out.call hb); clear hb)
      | ((with_reducible refine Step.gate_build (t := 53) rfl ?_); refine Step.freshSlice (cs := #[.int .i64 1, .int .i64 2, .int .i64 4, .int .i64 8, .int .i64 1, .int .i64 2, .int .i64 4]) (T := 3) (n := 7) (m := 7) rfl ?hr ?_; (case hr => first | (go_simp; done) | (go_simp; rfl)); intro g9 w1 b hg hb; have PB := Lib.hid (show Blk w1 g9 (Enc.ints ([1, 2, 4, 8, 1, 2, 4] : List Int)) _ from b); replace ST := Lib.hid (ST.out.call hb); clear b hb hg)
      | (go_at_call 68; (with_reducible refine (rpick_any (n := 7) PB.out ([1, 2, 4, 8, 1, 2, 4] : List Int) rfl rfl (by decide) _ (by first | exact small HX.out (by decide) | decide)).mono ?_); rintro e w' ⟨rfl, hb⟩; clear PB; replace ST := Lib.hid (ST.out.call hb); clear hb; (try rw [hu0]); (try rw [hu1]); (try rw [hu2]); (try rw [hu3]); (try rw [hu4]); (try rw [hu5]); (try rw [hu6]); (try rw [hu7]))
      | ((with_reducible refine Step.gate_alloc (t := 44) rfl ?_); refine Step.freshAlloc rfl rfl (alloc_agg zero_inst) ?_; intro g2 w2 b hg hb; replace ST := Lib.hid (ST.out.more b hg hb); clear b hg hb)
      | ((with_reducible refine Step.gate_alloc (t := 44) rfl ?_); refine Step.freshAlloc rfl rfl (alloc_agg zero_inst) ?_; intro g1 w1 b hg hb; have ST := Lib.hid (S1.made b hg hb); clear b hg hb)
      | ((with_reducible refine Step.gate_store (t := 3) rfl ?_); refine Step.store ST.out.one rfl rfl rfl rfl rfl pl_int rfl rfl ?_; intro w3 nb m; replace ST := Lib.hid (ST.out.set1 nb m); clear nb m)
      | ((with_reducible refine Step.gate_store (t := 4) rfl ?_); refine Step.store ST.out.one rfl rfl rfl rfl rfl pl_bool rfl rfl ?_; intro w3 nb m; replace ST := Lib.hid (ST.out.set1 nb m); clear nb m)
      | ((with_reducible refine Step.gate_store (t := 44) rfl ?_); refine Step.storeAll ST.out.one rfl rfl rfl rfl rfl size_inst rfl rfl ?_; intro w3 nb m; replace ST := Lib.hid (ST.out.set1 nb m); clear nb m)
      | ((with_reducible refine Step.gate_load (t := 3) rfl ?_); refine Step.load ST.out.one rfl rfl rfl pl_int rfl ?_)
      | ((with_reducible refine Step.gate_load (t := 4) rfl ?_); refine Step.load ST.out.one rfl rfl rfl pl_bool rfl ?_)
      | ((with_reducible refine Step.gate_load (t := 44) rfl ?_); refine Step.loadAll ST.out.one rfl rfl rfl Tryz.underlying44 rfl size_inst ?_)
      | ((with_reducible refine Step.gate_store (t := 3) rfl ?_); refine Step.store ST.out.two rfl rfl rfl rfl rfl pl_int rfl rfl ?_; intro w3 nb m; replace ST := Lib.hid (ST.out.set2 nb m); clear nb m)
      | ((with_reducible refine Step.gate_store (t := 4) rfl ?_); refine Step.store ST.out.two rfl rfl rfl rfl rfl pl_bool rfl rfl ?_; intro w3 nb m; replace ST := Lib.hid (ST.out.set2 nb m); clear nb m)
      | ((with_reducible refine Step.gate_store (t := 44) rfl ?_); refine Step.storeAll ST.out.two rfl rfl rfl rfl rfl size_inst rfl rfl ?_; intro w3 nb m; replace ST := Lib.hid (ST.out.set2 nb m); clear nb m)
      | ((with_reducible refine Step.gate_load (t := 3) rfl ?_); refine Step.load ST.out.two rfl rfl rfl pl_int rfl ?_)
      | ((with_reducible refine Step.gate_load (t := 4) rfl ?_); refine Step.load ST.out.two rfl rfl rfl pl_bool rfl ?_)
      | ((with_reducible refine Step.gate_load (t := 44) rfl ?_); refine Step.loadAll ST.out.two rfl rfl rfl Tryz.underlying44 rfl size_inst ?_))
    refine bodyPost_ret (results_row_tmp rfl _ _ g1 _ _ _ rfl ST.out.one Tryz.underlying44 rfl size_inst) rfl ⟨rfl, ST.out.below⟩)
set_option maxHeartbeats 8000000 in
theorem rdec_35 (a : Int) (ha : W32 a) (hop : fd a 6 0 = 35) (w : World) : Calls Tryz.prog 45 #[.int .u32 a] w fun e w' => e = .returned (told (decOp 35 a)) ∧ Below w.heap.size w w' := by
  have T0 := Lib.hid (fun w => calls_below (rbits_any a 14 12 14 12 ha rfl rfl (by decide) (by decide) w))
  have T1 := Lib.hid (fun w => calls_below (rbits_any a 31 25 31 25 ha rfl rfl (by decide) (by decide) w))
  have T2 := Lib.hid (fun w => calls_below (rbits_any a 11 7 11 7 ha rfl rfl (by decide) (by decide) w))
  have T3 := Lib.hid (fun w => calls_below (rbits_any a 19 15 19 15 ha rfl rfl (by decide) (by decide) w))
  have T4 := Lib.hid (fun w => calls_below (rbits_any a 24 20 24 20 ha rfl rfl (by decide) (by decide) w))
  have T5 := Lib.hid (fun w => calls_below (rbits_any a 31 26 31 26 ha rfl rfl (by decide) (by decide) w))
  have T6 := Lib.hid (fun w => calls_below (rbits_any a 25 20 25 20 ha rfl rfl (by decide) (by decide) w))
  have TO := Lib.hid (fun w => calls_below (rbits_any a 6 0 6 0 ha rfl rfl (by decide) (by decide) w))
  have HX := Lib.hid (fd_lit (a := a) (h := 14) (l := 12) (n := 8) rfl)
  rw [hop] at TO
  clear hop
  have TM := Lib.hid (fun w => calls_below (rs_any a ha w))
  rw [show decOp 35 a = (if (fd a 14 12) < 4 then some ⟨7, 0, 0, (fd a 19 15), (fd a 24 20), (immS a), pk stL (fd a 14 12), false⟩ else none : Option Ins) from by simp [decOp]]
  generalize immS a = m at *
  generalize fd a 14 12 = x at *
  generalize fd a 31 25 = s at *
  generalize fd a 11 7 = rd at *
  generalize fd a 19 15 = rs1 at *
  generalize fd a 24 20 = rs2 at *
  generalize fd a 31 26 = hi at *
  generalize fd a 25 20 = sh at *
  obtain ⟨E_, hEq⟩ : ∃ E_, (if x < 4 then some ⟨7, 0, 0, rs1, rs2, m, pk stL x, false⟩ else none : Option Ins) = E_ := ⟨_, rfl⟩
  rw [hEq]
  have hd : (x = 0 ∧ E_ = some ⟨7, 0, 0, rs1, rs2, m, 1, false⟩) ∨ (x = 1 ∧ E_ = some ⟨7, 0, 0, rs1, rs2, m, 2, false⟩) ∨ (x = 2 ∧ E_ = some ⟨7, 0, 0, rs1, rs2, m, 4, false⟩) ∨ (x = 3 ∧ E_ = some ⟨7, 0, 0, rs1, rs2, m, 8, false⟩) ∨ (x = 4 ∧ E_ = none) ∨ (x = 5 ∧ E_ = none) ∨ (x = 6 ∧ E_ = none) ∨ (x = 7 ∧ E_ = none) := by
    have := HX.out
    rw [← hEq]
    obtain h | h | h | h | h | h | h | h : x = 0 ∨ x = 1 ∨ x = 2 ∨ x = 3 ∨ x = 4 ∨ x = 5 ∨ x = 6 ∨ x = 7 := by omega
    all_goals (subst h; simp [ldL, stL, pk])
  clear hEq
  have hu0 : pk ([1, 2, 4, 8] : List Int) 0 = 1 := rfl
  have hu1 : pk ([1, 2, 4, 8] : List Int) 1 = 2 := rfl
  have hu2 : pk ([1, 2, 4, 8] : List Int) 2 = 4 := rfl
  have hu3 : pk ([1, 2, 4, 8] : List Int) 3 = 8 := rfl
  have hu4 : pk ([1, 2, 4, 8] : List Int) 4 = 0 := rfl
  have hu5 : pk ([1, 2, 4, 8] : List Int) 5 = 0 := rfl
  have hu6 : pk ([1, 2, 4, 8] : List Int) 6 = 0 := rfl
  have hu7 : pk ([1, 2, 4, 8] : List Int) 7 = 0 := rfl
  rcases hd with ⟨c0, hE⟩ | ⟨c0, hE⟩ | ⟨c0, hE⟩ | ⟨c0, hE⟩ | ⟨c0, hE⟩ | ⟨c0, hE⟩ | ⟨c0, hE⟩ | ⟨c0, hE⟩
  all_goals subst hE
  all_goals subst c0
  all_goals (
    go_enter Tryz.func45, Tryz.ntmps45
    go_wp2_with (first
      | (go_at_call 70; (with_reducible refine (T0.out _).mono ?_); rintro e w' ⟨rfl, hb⟩; (try replace PB := Lib.hid (PB.out.below hb)); replace ST := Lib.hid (ST.out.call hb); clear hb)
      | (go_at_call 70; (with_reducible refine (T1.out _).mono ?_); rintro e w' ⟨rfl, hb⟩; (try replace PB := Lib.hid (PB.out.below hb)); replace ST := Lib.hid (ST.out.call hb); clear hb)
      | (go_at_call 70; (with_reducible refine (T2.out _).mono ?_); rintro e w' ⟨rfl, hb⟩; (try replace PB := Lib.hid (PB.out.below hb)); replace ST := Lib.hid (ST.out.call hb); clear hb)
      | (go_at_call 70; (with_reducible refine (T3.out _).mono ?_); rintro e w' ⟨rfl, hb⟩; (try replace PB := Lib.hid (PB.out.below hb)); replace ST := Lib.hid (ST.out.call hb); clear hb)
      | (go_at_call 70; (with_reducible refine (T4.out _).mono ?_); rintro e w' ⟨rfl, hb⟩; (try replace PB := Lib.hid (PB.out.below hb)); replace ST := Lib.hid (ST.out.call hb); clear hb)
      | (go_at_call 70; (with_reducible refine (T5.out _).mono ?_); rintro e w' ⟨rfl, hb⟩; (try replace PB := Lib.hid (PB.out.below hb)); replace ST := Lib.hid (ST.out.call hb); clear hb)
      | (go_at_call 70; (with_reducible refine (T6.out _).mono ?_); rintro e w' ⟨rfl, hb⟩; (try replace PB := Lib.hid (PB.out.below hb)); replace ST := Lib.hid (ST.out.call hb); clear hb)
      | (go_at_call 70; (with_reducible refine (TO.out _).mono ?_); rintro e w' ⟨rfl, hb⟩; (try replace PB := Lib.hid (PB.out.below hb)); replace ST := Lib.hid (ST.out.call hb); clear hb)
      | (go_at_call 75; (with_reducible refine (TM.out _).mono ?_); rintro e w' ⟨rfl, hb⟩; (try replace PB := Lib.hid (PB.out.below hb)); replace ST := Lib.hid (ST.out.call hb); clear hb)
      | ((with_reducible refine Step.gate_build (t := 53) rfl ?_); refine Step.freshSlice (cs := #[.int .i64 1, .int .i64 2, .int .i64 4, .int .i64 8]) (T := 3) (n := 4) (m := 4) rfl ?hr ?_; (case hr => first | (go_simp; done) | (go_simp; rfl)); intro g9 w1 b hg hb; have PB := Lib.hid (show Blk w1 g9 (Enc.ints ([1, 2, 4, 8] : List Int)) _ from b); replace ST := Lib.hid (ST.out.call hb); clear b hb hg)
      | (go_at_call 68; (with_reducible refine (rpick_any (n := 4) PB.out ([1, 2, 4, 8] : List Int) rfl rfl (by decide) _ (by first | exact small HX.out (by decide) | decide)).mono ?_); rintro e w' ⟨rfl, hb⟩; clear PB; replace ST := Lib.hid (ST.out.call hb); clear hb; (try rw [hu0]); (try rw [hu1]); (try rw [hu2]); (try rw [hu3]); (try rw [hu4]); (try rw [hu5]); (try rw [hu6]); (try rw [hu7]))
      | ((with_reducible refine Step.gate_alloc (t := 44) rfl ?_); refine Step.freshAlloc rfl rfl (alloc_agg zero_inst) ?_; intro g2 w2 b hg hb; replace ST := Lib.hid (ST.out.more b hg hb); clear b hg hb)
      | ((with_reducible refine Step.gate_alloc (t := 44) rfl ?_); refine Step.freshAlloc rfl rfl (alloc_agg zero_inst) ?_; intro g1 w1 b hg hb; have ST := Lib.hid (S1.made b hg hb); clear b hg hb)
      | ((with_reducible refine Step.gate_store (t := 3) rfl ?_); refine Step.store ST.out.one rfl rfl rfl rfl rfl pl_int rfl rfl ?_; intro w3 nb m; replace ST := Lib.hid (ST.out.set1 nb m); clear nb m)
      | ((with_reducible refine Step.gate_store (t := 4) rfl ?_); refine Step.store ST.out.one rfl rfl rfl rfl rfl pl_bool rfl rfl ?_; intro w3 nb m; replace ST := Lib.hid (ST.out.set1 nb m); clear nb m)
      | ((with_reducible refine Step.gate_store (t := 44) rfl ?_); refine Step.storeAll ST.out.one rfl rfl rfl rfl rfl size_inst rfl rfl ?_; intro w3 nb m; replace ST := Lib.hid (ST.out.set1 nb m); clear nb m)
      | ((with_reducible refine Step.gate_load (t := 3) rfl ?_); refine Step.load ST.out.one rfl rfl rfl pl_int rfl ?_)
      | ((with_reducible refine Step.gate_load (t := 4) rfl ?_); refine Step.load ST.out.one rfl rfl rfl pl_bool rfl ?_)
      | ((with_reducible refine Step.gate_load (t := 44) rfl ?_); refine Step.loadAll ST.out.one rfl rfl rfl Tryz.underlying44 rfl size_inst ?_)
      | ((with_reducible refine Step.gate_store (t := 3) rfl ?_); refine Step.store ST.out.two rfl rfl rfl rfl rfl pl_int rfl rfl ?_; intro w3 nb m; replace ST := Lib.hid (ST.out.set2 nb m); clear nb m)
      | ((with_reducible refine Step.gate_store (t := 4) rfl ?_); refine Step.store ST.out.two rfl rfl rfl rfl rfl pl_bool rfl rfl ?_; intro w3 nb m; replace ST := Lib.hid (ST.out.set2 nb m); clear nb m)
      | ((with_reducible refine Step.gate_store (t := 44) rfl ?_); refine Step.storeAll ST.out.two rfl rfl rfl rfl rfl size_inst rfl rfl ?_; intro w3 nb m; replace ST := Lib.hid (ST.out.set2 nb m); clear nb m)
      | ((with_reducible refine Step.gate_load (t := 3) rfl ?_); refine Step.load ST.out.two rfl rfl rfl pl_int rfl ?_)
      | ((with_reducible refine Step.gate_load (t := 4) rfl ?_); refine Step.load ST.out.two rfl rfl rfl pl_bool rfl ?_)
      | ((with_reducible refine Step.gate_load (t := 44) rfl ?_); refine Step.loadAll ST.out.two rfl rfl rfl Tryz.underlying44 rfl size_inst ?_))
    refine bodyPost_ret (results_row_tmp rfl _ _ g1 _ _ _ rfl ST.out.one Tryz.underlying44 rfl size_inst) rfl ⟨rfl, ST.out.below⟩)
theorem pk_pad (L M : List Int) (h : ∀ k, k < 8 → L.getD k 0 = M.getD k 0) (x : Int) (hx : 0 ≤ x ∧ x < 8) : pk L x = pk M x := by
  unfold pk
  rw [if_neg (by omega), if_neg (by omega)]
  exact h _ (by omega)
set_option maxHeartbeats 8000000 in
theorem rdec_51 (a : Int) (ha : W32 a) (hop : fd a 6 0 = 51) (w : World) : Calls Tryz.prog 45 #[.int .u32 a] w fun e w' => e = .returned (told (decOp 51 a)) ∧ Below w.heap.size w w' := by
  have T0 := Lib.hid (fun w => calls_below (rbits_any a 14 12 14 12 ha rfl rfl (by decide) (by decide) w))
  have T1 := Lib.hid (fun w => calls_below (rbits_any a 31 25 31 25 ha rfl rfl (by decide) (by decide) w))
  have T2 := Lib.hid (fun w => calls_below (rbits_any a 11 7 11 7 ha rfl rfl (by decide) (by decide) w))
  have T3 := Lib.hid (fun w => calls_below (rbits_any a 19 15 19 15 ha rfl rfl (by decide) (by decide) w))
  have T4 := Lib.hid (fun w => calls_below (rbits_any a 24 20 24 20 ha rfl rfl (by decide) (by decide) w))
  have T5 := Lib.hid (fun w => calls_below (rbits_any a 31 26 31 26 ha rfl rfl (by decide) (by decide) w))
  have T6 := Lib.hid (fun w => calls_below (rbits_any a 25 20 25 20 ha rfl rfl (by decide) (by decide) w))
  have TO := Lib.hid (fun w => calls_below (rbits_any a 6 0 6 0 ha rfl rfl (by decide) (by decide) w))
  have HX := Lib.hid (fd_lit (a := a) (h := 14) (l := 12) (n := 8) rfl)
  rw [hop] at TO
  clear hop
  rw [show decOp 51 a = (if (regF true (fd a 31 25) (fd a 14 12)) = 0 then none else some ⟨8, (regF true (fd a 31 25) (fd a 14 12)), (fd a 11 7), (fd a 19 15), (fd a 24 20), 0, 0, false⟩ : Option Ins) from by simp [decOp]]
  generalize fd a 14 12 = x at *
  generalize fd a 31 25 = s at *
  generalize fd a 11 7 = rd at *
  generalize fd a 19 15 = rs1 at *
  generalize fd a 24 20 = rs2 at *
  generalize fd a 31 26 = hi at *
  generalize fd a 25 20 = sh at *
  have HS : ∃ u, (regF true s x) = u ∧ ((s = 0 ∧ pk ([1, 3, 4, 5, 6, 7, 9, 10] : List Int) x = u) ∨ (s = 32 ∧ pk ([2, 0, 0, 0, 0, 8, 0, 0] : List Int) x = u) ∨ (s = 1 ∧ pk ([11, 12, 13, 14, 15, 16, 17, 18] : List Int) x = u) ∨ (¬ s = 0 ∧ ¬ s = 32 ∧ ¬ s = 1 ∧ u = 0)) := by
    refine ⟨_, rfl, ?_⟩
    by_cases c0 : s = 0
    · subst c0; exact .inl ⟨rfl, rfl⟩
    by_cases c1 : s = 32
    · subst c1; exact .inr (.inl ⟨rfl, (pk_pad ([2, 0, 0, 0, 0, 8] : List Int) ([2, 0, 0, 0, 0, 8, 0, 0] : List Int) (by decide) x HX.out).symm⟩)
    by_cases c2 : s = 1
    · subst c2; exact .inr (.inr (.inl ⟨rfl, rfl⟩))
    exact .inr (.inr (.inr ⟨c0, c1, c2, by simp [regF, c0, c1, c2]⟩))
  obtain ⟨u, hr, hs⟩ := HS
  rw [hr]
  clear hr
  obtain ⟨E_, hEq⟩ : ∃ E_, (if u = 0 then none else some ⟨8, u, rd, rs1, rs2, 0, 0, false⟩ : Option Ins) = E_ := ⟨_, rfl⟩
  rw [hEq]
  have hd : (u = 0 ∧ E_ = none) ∨ (¬ (u = 0) ∧ E_ = some ⟨8, u, rd, rs1, rs2, 0, 0, false⟩) := by
    by_cases c0 : u = 0
    · exact Or.inl ⟨c0, by rw [← hEq]; simp [c0]⟩
    · exact Or.inr (⟨c0, by rw [← hEq]; simp [c0]⟩)
  clear hEq
  rcases hd with ⟨c0, hE⟩ | ⟨c0, hE⟩
  all_goals subst hE
  all_goals rcases hs with ⟨c1, hu⟩ | ⟨c1, hu⟩ | ⟨c1, hu⟩ | ⟨c1, c2, c3, hu⟩
  all_goals (try (exfalso; omega))
  all_goals (
    go_enter Tryz.func45, Tryz.ntmps45
    go_wp2_with (first
      | (go_at_call 70; (with_reducible refine (T0.out _).mono ?_); rintro e w' ⟨rfl, hb⟩; (try replace PB := Lib.hid (PB.out.below hb)); replace ST := Lib.hid (ST.out.call hb); clear hb)
      | (go_at_call 70; (with_reducible refine (T1.out _).mono ?_); rintro e w' ⟨rfl, hb⟩; (try replace PB := Lib.hid (PB.out.below hb)); replace ST := Lib.hid (ST.out.call hb); clear hb)
      | (go_at_call 70; (with_reducible refine (T2.out _).mono ?_); rintro e w' ⟨rfl, hb⟩; (try replace PB := Lib.hid (PB.out.below hb)); replace ST := Lib.hid (ST.out.call hb); clear hb)
      | (go_at_call 70; (with_reducible refine (T3.out _).mono ?_); rintro e w' ⟨rfl, hb⟩; (try replace PB := Lib.hid (PB.out.below hb)); replace ST := Lib.hid (ST.out.call hb); clear hb)
      | (go_at_call 70; (with_reducible refine (T4.out _).mono ?_); rintro e w' ⟨rfl, hb⟩; (try replace PB := Lib.hid (PB.out.below hb)); replace ST := Lib.hid (ST.out.call hb); clear hb)
      | (go_at_call 70; (with_reducible refine (T5.out _).mono ?_); rintro e w' ⟨rfl, hb⟩; (try replace PB := Lib.hid (PB.out.below hb)); replace ST := Lib.hid (ST.out.call hb); clear hb)
      | (go_at_call 70; (with_reducible refine (T6.out _).mono ?_); rintro e w' ⟨rfl, hb⟩; (try replace PB := Lib.hid (PB.out.below hb)); replace ST := Lib.hid (ST.out.call hb); clear hb)
      | (go_at_call 70; (with_reducible refine (TO.out _).mono ?_); rintro e w' ⟨rfl, hb⟩; (try replace PB := Lib.hid (PB.out.below hb)); replace ST := Lib.hid (ST.out.call hb); clear hb)
      | ((with_reducible refine Step.gate_build (t := 53) rfl ?_); refine Step.freshSlice (cs := #[.int .i64 1, .int .i64 3, .int .i64 4, .int .i64 5, .int .i64 6, .int .i64 7, .int .i64 9, .int .i64 10]) (T := 3) (n := 8) (m := 8) rfl ?hr ?_; (case hr => first | (go_simp; done) | (go_simp; rfl)); intro g9 w1 b hg hb; have PB := Lib.hid (show Blk w1 g9 (Enc.ints ([1, 3, 4, 5, 6, 7, 9, 10] : List Int)) _ from b); replace ST := Lib.hid (ST.out.call hb); clear b hb hg)
      | ((with_reducible refine Step.gate_build (t := 53) rfl ?_); refine Step.freshSlice (cs := #[.int .i64 2, .int .i64 0, .int .i64 0, .int .i64 0, .int .i64 0, .int .i64 8, .int .i64 0, .int .i64 0]) (T := 3) (n := 8) (m := 8) rfl ?hr ?_; (case hr => first | (go_simp; done) | (go_simp; rfl)); intro g9 w1 b hg hb; have PB := Lib.hid (show Blk w1 g9 (Enc.ints ([2, 0, 0, 0, 0, 8, 0, 0] : List Int)) _ from b); replace ST := Lib.hid (ST.out.call hb); clear b hb hg)
      | ((with_reducible refine Step.gate_build (t := 53) rfl ?_); refine Step.freshSlice (cs := #[.int .i64 11, .int .i64 12, .int .i64 13, .int .i64 14, .int .i64 15, .int .i64 16, .int .i64 17, .int .i64 18]) (T := 3) (n := 8) (m := 8) rfl ?hr ?_; (case hr => first | (go_simp; done) | (go_simp; rfl)); intro g9 w1 b hg hb; have PB := Lib.hid (show Blk w1 g9 (Enc.ints ([11, 12, 13, 14, 15, 16, 17, 18] : List Int)) _ from b); replace ST := Lib.hid (ST.out.call hb); clear b hb hg)
      | (go_at_call 68; (with_reducible refine (rpick_any (n := 8) PB.out ([1, 3, 4, 5, 6, 7, 9, 10] : List Int) rfl rfl (by decide) _ (by first | exact small HX.out (by decide) | decide)).mono ?_); rintro e w' ⟨rfl, hb⟩; clear PB; replace ST := Lib.hid (ST.out.call hb); clear hb; (try rw [hu]))
      | (go_at_call 68; (with_reducible refine (rpick_any (n := 8) PB.out ([2, 0, 0, 0, 0, 8, 0, 0] : List Int) rfl rfl (by decide) _ (by first | exact small HX.out (by decide) | decide)).mono ?_); rintro e w' ⟨rfl, hb⟩; clear PB; replace ST := Lib.hid (ST.out.call hb); clear hb; (try rw [hu]))
      | (go_at_call 68; (with_reducible refine (rpick_any (n := 8) PB.out ([11, 12, 13, 14, 15, 16, 17, 18] : List Int) rfl rfl (by decide) _ (by first | exact small HX.out (by decide) | decide)).mono ?_); rintro e w' ⟨rfl, hb⟩; clear PB; replace ST := Lib.hid (ST.out.call hb); clear hb; (try rw [hu]))
      | ((with_reducible refine Step.gate_alloc (t := 44) rfl ?_); refine Step.freshAlloc rfl rfl (alloc_agg zero_inst) ?_; intro g2 w2 b hg hb; replace ST := Lib.hid (ST.out.more b hg hb); clear b hg hb)
      | ((with_reducible refine Step.gate_alloc (t := 44) rfl ?_); refine Step.freshAlloc rfl rfl (alloc_agg zero_inst) ?_; intro g1 w1 b hg hb; have ST := Lib.hid (S1.made b hg hb); clear b hg hb)
      | ((with_reducible refine Step.gate_store (t := 3) rfl ?_); refine Step.store ST.out.one rfl rfl rfl rfl rfl pl_int rfl rfl ?_; intro w3 nb m; replace ST := Lib.hid (ST.out.set1 nb m); clear nb m)
      | ((with_reducible refine Step.gate_store (t := 4) rfl ?_); refine Step.store ST.out.one rfl rfl rfl rfl rfl pl_bool rfl rfl ?_; intro w3 nb m; replace ST := Lib.hid (ST.out.set1 nb m); clear nb m)
      | ((with_reducible refine Step.gate_store (t := 44) rfl ?_); refine Step.storeAll ST.out.one rfl rfl rfl rfl rfl size_inst rfl rfl ?_; intro w3 nb m; replace ST := Lib.hid (ST.out.set1 nb m); clear nb m)
      | ((with_reducible refine Step.gate_load (t := 3) rfl ?_); refine Step.load ST.out.one rfl rfl rfl pl_int rfl ?_)
      | ((with_reducible refine Step.gate_load (t := 4) rfl ?_); refine Step.load ST.out.one rfl rfl rfl pl_bool rfl ?_)
      | ((with_reducible refine Step.gate_load (t := 44) rfl ?_); refine Step.loadAll ST.out.one rfl rfl rfl Tryz.underlying44 rfl size_inst ?_)
      | ((with_reducible refine Step.gate_store (t := 3) rfl ?_); refine Step.store ST.out.two rfl rfl rfl rfl rfl pl_int rfl rfl ?_; intro w3 nb m; replace ST := Lib.hid (ST.out.set2 nb m); clear nb m)
      | ((with_reducible refine Step.gate_store (t := 4) rfl ?_); refine Step.store ST.out.two rfl rfl rfl rfl rfl pl_bool rfl rfl ?_; intro w3 nb m; replace ST := Lib.hid (ST.out.set2 nb m); clear nb m)
      | ((with_reducible refine Step.gate_store (t := 44) rfl ?_); refine Step.storeAll ST.out.two rfl rfl rfl rfl rfl size_inst rfl rfl ?_; intro w3 nb m; replace ST := Lib.hid (ST.out.set2 nb m); clear nb m)
      | ((with_reducible refine Step.gate_load (t := 3) rfl ?_); refine Step.load ST.out.two rfl rfl rfl pl_int rfl ?_)
      | ((with_reducible refine Step.gate_load (t := 4) rfl ?_); refine Step.load ST.out.two rfl rfl rfl pl_bool rfl ?_)
      | ((with_reducible refine Step.gate_load (t := 44) rfl ?_); refine Step.loadAll ST.out.two rfl rfl rfl Tryz.underlying44 rfl size_inst ?_))
    refine bodyPost_ret (results_row_tmp rfl _ _ g1 _ _ _ rfl ST.out.one Tryz.underlying44 rfl size_inst) rfl ⟨rfl, ST.out.below⟩)
set_option maxHeartbeats 8000000 in
theorem rdec_59 (a : Int) (ha : W32 a) (hop : fd a 6 0 = 59) (w : World) : Calls Tryz.prog 45 #[.int .u32 a] w fun e w' => e = .returned (told (decOp 59 a)) ∧ Below w.heap.size w w' := by
  have T0 := Lib.hid (fun w => calls_below (rbits_any a 14 12 14 12 ha rfl rfl (by decide) (by decide) w))
  have T1 := Lib.hid (fun w => calls_below (rbits_any a 31 25 31 25 ha rfl rfl (by decide) (by decide) w))
  have T2 := Lib.hid (fun w => calls_below (rbits_any a 11 7 11 7 ha rfl rfl (by decide) (by decide) w))
  have T3 := Lib.hid (fun w => calls_below (rbits_any a 19 15 19 15 ha rfl rfl (by decide) (by decide) w))
  have T4 := Lib.hid (fun w => calls_below (rbits_any a 24 20 24 20 ha rfl rfl (by decide) (by decide) w))
  have T5 := Lib.hid (fun w => calls_below (rbits_any a 31 26 31 26 ha rfl rfl (by decide) (by decide) w))
  have T6 := Lib.hid (fun w => calls_below (rbits_any a 25 20 25 20 ha rfl rfl (by decide) (by decide) w))
  have TO := Lib.hid (fun w => calls_below (rbits_any a 6 0 6 0 ha rfl rfl (by decide) (by decide) w))
  have HX := Lib.hid (fd_lit (a := a) (h := 14) (l := 12) (n := 8) rfl)
  rw [hop] at TO
  clear hop
  rw [show decOp 59 a = (if (regF false (fd a 31 25) (fd a 14 12)) = 0 then none else some ⟨8, (regF false (fd a 31 25) (fd a 14 12)), (fd a 11 7), (fd a 19 15), (fd a 24 20), 0, 0, false⟩ : Option Ins) from by simp [decOp]]
  generalize fd a 14 12 = x at *
  generalize fd a 31 25 = s at *
  generalize fd a 11 7 = rd at *
  generalize fd a 19 15 = rs1 at *
  generalize fd a 24 20 = rs2 at *
  generalize fd a 31 26 = hi at *
  generalize fd a 25 20 = sh at *
  have HS : ∃ u, (regF false s x) = u ∧ ((s = 0 ∧ pk ([19, 21, 0, 0, 0, 22, 0, 0] : List Int) x = u) ∨ (s = 32 ∧ pk ([20, 0, 0, 0, 0, 23, 0, 0] : List Int) x = u) ∨ (s = 1 ∧ pk ([24, 0, 0, 0, 25, 26, 27, 28] : List Int) x = u) ∨ (¬ s = 0 ∧ ¬ s = 32 ∧ ¬ s = 1 ∧ u = 0)) := by
    refine ⟨_, rfl, ?_⟩
    by_cases c0 : s = 0
    · subst c0; exact .inl ⟨rfl, (pk_pad ([19, 21, 0, 0, 0, 22] : List Int) ([19, 21, 0, 0, 0, 22, 0, 0] : List Int) (by decide) x HX.out).symm⟩
    by_cases c1 : s = 32
    · subst c1; exact .inr (.inl ⟨rfl, (pk_pad ([20, 0, 0, 0, 0, 23] : List Int) ([20, 0, 0, 0, 0, 23, 0, 0] : List Int) (by decide) x HX.out).symm⟩)
    by_cases c2 : s = 1
    · subst c2; exact .inr (.inr (.inl ⟨rfl, rfl⟩))
    exact .inr (.inr (.inr ⟨c0, c1, c2, by simp [regF, c0, c1, c2]⟩))
  obtain ⟨u, hr, hs⟩ := HS
  rw [hr]
  clear hr
  obtain ⟨E_, hEq⟩ : ∃ E_, (if u = 0 then none else some ⟨8, u, rd, rs1, rs2, 0, 0, false⟩ : Option Ins) = E_ := ⟨_, rfl⟩
  rw [hEq]
  have hd : (u = 0 ∧ E_ = none) ∨ (¬ (u = 0) ∧ E_ = some ⟨8, u, rd, rs1, rs2, 0, 0, false⟩) := by
    by_cases c0 : u = 0
    · exact Or.inl ⟨c0, by rw [← hEq]; simp [c0]⟩
    · exact Or.inr (⟨c0, by rw [← hEq]; simp [c0]⟩)
  clear hEq
  rcases hd with ⟨c0, hE⟩ | ⟨c0, hE⟩
  all_goals subst hE
  all_goals rcases hs with ⟨c1, hu⟩ | ⟨c1, hu⟩ | ⟨c1, hu⟩ | ⟨c1, c2, c3, hu⟩
  all_goals (try (exfalso; omega))
  all_goals (
    go_enter Tryz.func45, Tryz.ntmps45
    go_wp2_with (first
      | (go_at_call 70; (with_reducible refine (T0.out _).mono ?_); rintro e w' ⟨rfl, hb⟩; (try replace PB := Lib.hid (PB.out.below hb)); replace ST := Lib.hid (ST.out.call hb); clear hb)
      | (go_at_call 70; (with_reducible refine (T1.out _).mono ?_); rintro e w' ⟨rfl, hb⟩; (try replace PB := Lib.hid (PB.out.below hb)); replace ST := Lib.hid (ST.out.call hb); clear hb)
      | (go_at_call 70; (with_reducible refine (T2.out _).mono ?_); rintro e w' ⟨rfl, hb⟩; (try replace PB := Lib.hid (PB.out.below hb)); replace ST := Lib.hid (ST.out.call hb); clear hb)
      | (go_at_call 70; (with_reducible refine (T3.out _).mono ?_); rintro e w' ⟨rfl, hb⟩; (try replace PB := Lib.hid (PB.out.below hb)); replace ST := Lib.hid (ST.out.call hb); clear hb)
      | (go_at_call 70; (with_reducible refine (T4.out _).mono ?_); rintro e w' ⟨rfl, hb⟩; (try replace PB := Lib.hid (PB.out.below hb)); replace ST := Lib.hid (ST.out.call hb); clear hb)
      | (go_at_call 70; (with_reducible refine (T5.out _).mono ?_); rintro e w' ⟨rfl, hb⟩; (try replace PB := Lib.hid (PB.out.below hb)); replace ST := Lib.hid (ST.out.call hb); clear hb)
      | (go_at_call 70; (with_reducible refine (T6.out _).mono ?_); rintro e w' ⟨rfl, hb⟩; (try replace PB := Lib.hid (PB.out.below hb)); replace ST := Lib.hid (ST.out.call hb); clear hb)
      | (go_at_call 70; (with_reducible refine (TO.out _).mono ?_); rintro e w' ⟨rfl, hb⟩; (try replace PB := Lib.hid (PB.out.below hb)); replace ST := Lib.hid (ST.out.call hb); clear hb)
      | ((with_reducible refine Step.gate_build (t := 53) rfl ?_); refine Step.freshSlice (cs := #[.int .i64 19, .int .i64 21, .int .i64 0, .int .i64 0, .int .i64 0, .int .i64 22, .int .i64 0, .int .i64 0]) (T := 3) (n := 8) (m := 8) rfl ?hr ?_; (case hr => first | (go_simp; done) | (go_simp; rfl)); intro g9 w1 b hg hb; have PB := Lib.hid (show Blk w1 g9 (Enc.ints ([19, 21, 0, 0, 0, 22, 0, 0] : List Int)) _ from b); replace ST := Lib.hid (ST.out.call hb); clear b hb hg)
      | ((with_reducible refine Step.gate_build (t := 53) rfl ?_); refine Step.freshSlice (cs := #[.int .i64 20, .int .i64 0, .int .i64 0, .int .i64 0, .int .i64 0, .int .i64 23, .int .i64 0, .int .i64 0]) (T := 3) (n := 8) (m := 8) rfl ?hr ?_; (case hr => first | (go_simp; done) | (go_simp; rfl)); intro g9 w1 b hg hb; have PB := Lib.hid (show Blk w1 g9 (Enc.ints ([20, 0, 0, 0, 0, 23, 0, 0] : List Int)) _ from b); replace ST := Lib.hid (ST.out.call hb); clear b hb hg)
      | ((with_reducible refine Step.gate_build (t := 53) rfl ?_); refine Step.freshSlice (cs := #[.int .i64 24, .int .i64 0, .int .i64 0, .int .i64 0, .int .i64 25, .int .i64 26, .int .i64 27, .int .i64 28]) (T := 3) (n := 8) (m := 8) rfl ?hr ?_; (case hr => first | (go_simp; done) | (go_simp; rfl)); intro g9 w1 b hg hb; have PB := Lib.hid (show Blk w1 g9 (Enc.ints ([24, 0, 0, 0, 25, 26, 27, 28] : List Int)) _ from b); replace ST := Lib.hid (ST.out.call hb); clear b hb hg)
      | (go_at_call 68; (with_reducible refine (rpick_any (n := 8) PB.out ([19, 21, 0, 0, 0, 22, 0, 0] : List Int) rfl rfl (by decide) _ (by first | exact small HX.out (by decide) | decide)).mono ?_); rintro e w' ⟨rfl, hb⟩; clear PB; replace ST := Lib.hid (ST.out.call hb); clear hb; (try rw [hu]))
      | (go_at_call 68; (with_reducible refine (rpick_any (n := 8) PB.out ([20, 0, 0, 0, 0, 23, 0, 0] : List Int) rfl rfl (by decide) _ (by first | exact small HX.out (by decide) | decide)).mono ?_); rintro e w' ⟨rfl, hb⟩; clear PB; replace ST := Lib.hid (ST.out.call hb); clear hb; (try rw [hu]))
      | (go_at_call 68; (with_reducible refine (rpick_any (n := 8) PB.out ([24, 0, 0, 0, 25, 26, 27, 28] : List Int) rfl rfl (by decide) _ (by first | exact small HX.out (by decide) | decide)).mono ?_); rintro e w' ⟨rfl, hb⟩; clear PB; replace ST := Lib.hid (ST.out.call hb); clear hb; (try rw [hu]))
      | ((with_reducible refine Step.gate_alloc (t := 44) rfl ?_); refine Step.freshAlloc rfl rfl (alloc_agg zero_inst) ?_; intro g2 w2 b hg hb; replace ST := Lib.hid (ST.out.more b hg hb); clear b hg hb)
      | ((with_reducible refine Step.gate_alloc (t := 44) rfl ?_); refine Step.freshAlloc rfl rfl (alloc_agg zero_inst) ?_; intro g1 w1 b hg hb; have ST := Lib.hid (S1.made b hg hb); clear b hg hb)
      | ((with_reducible refine Step.gate_store (t := 3) rfl ?_); refine Step.store ST.out.one rfl rfl rfl rfl rfl pl_int rfl rfl ?_; intro w3 nb m; replace ST := Lib.hid (ST.out.set1 nb m); clear nb m)
      | ((with_reducible refine Step.gate_store (t := 4) rfl ?_); refine Step.store ST.out.one rfl rfl rfl rfl rfl pl_bool rfl rfl ?_; intro w3 nb m; replace ST := Lib.hid (ST.out.set1 nb m); clear nb m)
      | ((with_reducible refine Step.gate_store (t := 44) rfl ?_); refine Step.storeAll ST.out.one rfl rfl rfl rfl rfl size_inst rfl rfl ?_; intro w3 nb m; replace ST := Lib.hid (ST.out.set1 nb m); clear nb m)
      | ((with_reducible refine Step.gate_load (t := 3) rfl ?_); refine Step.load ST.out.one rfl rfl rfl pl_int rfl ?_)
      | ((with_reducible refine Step.gate_load (t := 4) rfl ?_); refine Step.load ST.out.one rfl rfl rfl pl_bool rfl ?_)
      | ((with_reducible refine Step.gate_load (t := 44) rfl ?_); refine Step.loadAll ST.out.one rfl rfl rfl Tryz.underlying44 rfl size_inst ?_)
      | ((with_reducible refine Step.gate_store (t := 3) rfl ?_); refine Step.store ST.out.two rfl rfl rfl rfl rfl pl_int rfl rfl ?_; intro w3 nb m; replace ST := Lib.hid (ST.out.set2 nb m); clear nb m)
      | ((with_reducible refine Step.gate_store (t := 4) rfl ?_); refine Step.store ST.out.two rfl rfl rfl rfl rfl pl_bool rfl rfl ?_; intro w3 nb m; replace ST := Lib.hid (ST.out.set2 nb m); clear nb m)
      | ((with_reducible refine Step.gate_store (t := 44) rfl ?_); refine Step.storeAll ST.out.two rfl rfl rfl rfl rfl size_inst rfl rfl ?_; intro w3 nb m; replace ST := Lib.hid (ST.out.set2 nb m); clear nb m)
      | ((with_reducible refine Step.gate_load (t := 3) rfl ?_); refine Step.load ST.out.two rfl rfl rfl pl_int rfl ?_)
      | ((with_reducible refine Step.gate_load (t := 4) rfl ?_); refine Step.load ST.out.two rfl rfl rfl pl_bool rfl ?_)
      | ((with_reducible refine Step.gate_load (t := 44) rfl ?_); refine Step.loadAll ST.out.two rfl rfl rfl Tryz.underlying44 rfl size_inst ?_))
    refine bodyPost_ret (results_row_tmp rfl _ _ g1 _ _ _ rfl ST.out.one Tryz.underlying44 rfl size_inst) rfl ⟨rfl, ST.out.below⟩)
end Go.Proofs.YthkodjkkcgdmfaaGreat.Enc
end
