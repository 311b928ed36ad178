/- The word that is put together, of the program, the other kinds (written by genenc.py). -/
import Derived.Test.YtdhmfjcijcdnjaaEncB
namespace Go.Proofs.Ytdhmfjcijcdnjaa.Enc
open Go Go.RowKit Go.Proofs.Ytdhmfjcijcdnjaa.Step
set_option linter.unusedVariables false
set_option linter.unusedSimpArgs false
set_option maxRecDepth 100000

theorem stayL_nil {P : Program} {fin : Act} {I0 I1 : World → Prop} {kb : Nat} : ∀ o ∈ ([] : List Oper), StayL P fin I0 I1 kb o := fun _ h => nomatch h
theorem stayL_cons {P : Program} {fin : Act} {I0 I1 : World → Prop} {kb : Nat} {o : Oper} {l : List Oper} (h : StayL P fin I0 I1 kb o) (hl : ∀ o ∈ l, StayL P fin I0 I1 kb o) : ∀ o' ∈ o :: l, StayL P fin I0 I1 kb o' := fun o' ho => by
  rcases List.mem_cons.1 ho with rfl | h'
  · exact h
  · exact hl o' h'
set_option maxHeartbeats 2000000 in
theorem encode_7 (fn rd rs1 rs2 imm sz : Int) (sg : Bool) (w : World) : Calls Try.prog 28 #[.agg #[.int .i64 7, .int .i64 fn, .int .i64 rd, .int .i64 rs1, .int .i64 rs2, .int .i64 imm, .int .i64 sz, .bool sg]] w fun e w' => e = .returned (.int .u32 (bor (bor (bor (bor (35) (regW rd rs1 rs2)) (pt (ix ld4 sz) 3 12)) (pt (imm / 32) 7 25)) (pt (imm) 5 7))) ∧ Below w.heap.size w w' := by
  have Q1 := Lib.hid (fun w => calls_same (show Calls Try.prog 46 #[.int .i64 (rd), .int .i64 11, .int .i64 7] w fun e w' => e = .returned (.int .u32 (pt (rd) 5 7)) ∧ w = w' from put_any (rd) 11 7 11 7 rfl rfl (by decide) (by decide) w))
  have Q2 := Lib.hid (fun w => calls_same (show Calls Try.prog 46 #[.int .i64 (rs1), .int .i64 19, .int .i64 15] w fun e w' => e = .returned (.int .u32 (pt (rs1) 5 15)) ∧ w = w' from put_any (rs1) 19 15 19 15 rfl rfl (by decide) (by decide) w))
  have Q3 := Lib.hid (fun w => calls_same (show Calls Try.prog 46 #[.int .i64 (rs2), .int .i64 24, .int .i64 20] w fun e w' => e = .returned (.int .u32 (pt (rs2) 5 20)) ∧ w = w' from put_any (rs2) 24 20 24 20 rfl rfl (by decide) (by decide) w))
  have T4 := Lib.hid (fun w => calls_size (show Calls Try.prog 46 #[.int .i64 (ix ld4 sz), .int .i64 14, .int .i64 12] w fun e w' => e = .returned (.int .u32 (pt (ix ld4 sz) 3 12)) ∧ w = w' from put_any (ix ld4 sz) 14 12 14 12 rfl rfl (by decide) (by decide) w))
  have T0 := Lib.hid (fun w => calls_size (show Calls Try.prog 46 #[.int .i64 (imm / 32), .int .i64 31, .int .i64 25] w fun e w' => e = .returned (.int .u32 (pt (imm / 32) 7 25)) ∧ w = w' from put_any (imm / 32) 31 25 31 25 rfl rfl (by decide) (by decide) w))
  have T1 := Lib.hid (fun w => calls_size (show Calls Try.prog 46 #[.int .i64 (imm), .int .i64 11, .int .i64 7] w fun e w' => e = .returned (.int .u32 (pt (imm) 5 7)) ∧ w = w' from put_any (imm) 11 7 11 7 rfl rfl (by decide) (by decide) w))
  have HI := Lib.hid (fun (X : World) (g : Nat) (hX : Blk X g (Enc.ints ([1, 2, 4, 8] : List Int)) 3) => calls_same (show Calls Try.prog 47 #[.slice (some ⟨g, 0, none⟩) 4 4, .int .i64 sz] X fun e w' => e = .returned (.int .i64 (ix ld4 sz)) ∧ X = w' from index_any (n := 4) hX ([1, 2, 4, 8] : List Int) rfl rfl (by decide) sz))
  generalize pt (ix ld4 sz) 3 12 = p4 at *
  generalize pt (imm / 32) 7 25 = p0 at *
  generalize pt (imm) 5 7 = p1 at *
  generalize ix ld4 sz = u at *
  (try unfold regW)
  generalize pt (rd) 5 7 = q1 at *
  generalize pt (rs1) 5 15 = q2 at *
  generalize pt (rs2) 5 20 = q3 at *
  go_enter Try.func28, Try.ntmps28
  go_wp2_with (first
    | ((with_reducible refine one_region (id := 1) (fin := ?fin_1) ST.out ?hm_1 [(8, .pointer (some ⟨g1, 2, none⟩)), (9, .int .i64 (rd)), (10, .int .u32 (q1)), (11, .pointer (some ⟨g1, 3, none⟩)), (12, .int .i64 (rs1)), (13, .int .u32 (q2)), (14, .int .u32 (bits .or .u32 (q1) (q2))), (15, .pointer (some ⟨g1, 4, none⟩)), (16, .int .i64 (rs2)), (17, .int .u32 (q3)), (18, .int .u32 (bits .or .u32 (bits .or .u32 (q1) (q2)) (q3))), (3, .int .u32 (bits .or .u32 (bits .or .u32 (q1) (q2)) (q3)))] ?hord_1 ?hin_1 ?hfin_1 ?hdo_1 ?_); (case hm_1 => rfl); (case hord_1 => kernel_rfl); (case hin_1 => kernel_rfl); (case hfin_1 => (simp only [Reg.puts, Act.put, List.setIfInBounds_toArray, List.set_cons_zero, List.set_cons_succ]; try rfl)); (case hdo_1 => ((repeat' (first | exact stay1_nil | refine stay1_cons ?_ ?_)); all_goals (first | exact stay1_load rfl rfl rfl pl_int rfl rfl | exact stay1_load rfl rfl rfl pl_bool rfl rfl | exact stay1_call rfl rfl (fun X => by go_simp) (fun X => Q1.out X) rfl | exact stay1_call rfl rfl (fun X => by go_simp) (fun X => Q2.out X) rfl | exact stay1_call rfl rfl (fun X => by go_simp) (fun X => Q3.out X) rfl | exact stay1_slot rfl rfl (fun X => by first | (go_simp; done) | (go_simp; rfl))))); intro w' st_; clear ST; have ST := Lib.hid st_; clear st_)
    | ((with_reducible refine laid_region (id := 20) (I0 := L0 w 24 g1 #[.int .i64 7, .int .i64 fn, .int .i64 rd, .int .i64 rs1, .int .i64 rs2, .int .i64 imm, .int .i64 sz, .bool sg] w'.heap.size) (I1 := L1 w 24 g1 #[.int .i64 7, .int .i64 fn, .int .i64 rd, .int .i64 rs1, .int .i64 rs2, .int .i64 imm, .int .i64 sz, .bool sg] w'.heap.size #[.int .i64 1, .int .i64 2, .int .i64 4, .int .i64 8] 3) (fin := ?fin_6) (ob := ?ok_6) (kb := 2) ?hS_6 ?hm_6 [(124, .int .u32 (bits .or .u32 (bits .or .u32 (q1) (q2)) (q3))), (125, .int .u32 (bits .or .u32 (35) (bits .or .u32 (bits .or .u32 (q1) (q2)) (q3)))), (126, .slice (some ⟨w'.heap.size, 0, none⟩) 4 4), (127, .pointer (some ⟨g1, 6, none⟩)), (128, .int .i64 (sz)), (129, .int .i64 (u)), (130, .int .u32 (p4)), (131, .int .u32 (bits .or .u32 (bits .or .u32 (35) (bits .or .u32 (bits .or .u32 (q1) (q2)) (q3))) (p4))), (132, .pointer (some ⟨g1, 5, none⟩)), (133, .int .i64 (imm)), (134, .int .i64 (imm / 32)), (135, .int .u32 (p0)), (136, .int .u32 (bits .or .u32 (bits .or .u32 (bits .or .u32 (35) (bits .or .u32 (bits .or .u32 (q1) (q2)) (q3))) (p4)) (p0))), (137, .pointer (some ⟨g1, 5, none⟩)), (138, .int .i64 (imm)), (139, .int .u32 (p1)), (140, .int .u32 (bits .or .u32 (bits .or .u32 (bits .or .u32 (bits .or .u32 (35) (bits .or .u32 (bits .or .u32 (q1) (q2)) (q3))) (p4)) (p0)) (p1))), (2, .int .u32 (bits .or .u32 (bits .or .u32 (bits .or .u32 (bits .or .u32 (35) (bits .or .u32 (bits .or .u32 (q1) (q2)) (q3))) (p4)) (p0)) (p1)))] ?hord_6 ?hin_6 ?hfin_6 ?hk_6 ?hgb_6 ?hb_6 ?hdo_6 ?_); (case hS_6 => exact ⟨ST.out.call (below_drawn ⟨1, rfl⟩), rfl⟩); (case hm_6 => rfl); (case hord_6 => kernel_rfl); (case hin_6 => kernel_rfl); (case hfin_6 => (simp only [Reg.puts, Act.put, List.setIfInBounds_toArray, List.set_cons_zero, List.set_cons_succ]; try rfl)); (case hk_6 => rfl); (case hgb_6 => rfl); (case hb_6 => exact lays_list (m := 4) (fun X => by first | (go_simp; done) | (go_simp; rfl)) rfl); (case hdo_6 => (simp only [List.eraseIdx]; (repeat' (first | exact stayL_nil | refine stayL_cons ?_ ?_)); all_goals (first | exact stayL_load rfl rfl rfl pl_int rfl rfl | exact stayL_call rfl rfl (fun X => by go_simp) (fun X => T4.out X) rfl | exact stayL_call rfl rfl (fun X => by go_simp) (fun X => T0.out X) rfl | exact stayL_call rfl rfl (fun X => by go_simp) (fun X => T1.out X) rfl | exact stayL_read rfl (by kernel_rfl) rfl (fun X => by go_simp) (fun X hX => HI.out X _ hX) rfl | exact stayL_slot rfl rfl (fun X => by first | (go_simp; done) | (go_simp; rfl))))); intro w' hI; obtain ⟨st_, _⟩ := hI; replace ST := Lib.hid st_; clear st_)
    | ((with_reducible refine Step.gate_box (t := 24) rfl ?_); refine Step.fresh (cs := #[.int .i64 7, .int .i64 fn, .int .i64 rd, .int .i64 rs1, .int .i64 rs2, .int .i64 imm, .int .i64 sz, .bool sg]) (T := 24) rfl ?hr ?_; (case hr => first | (go_simp; done) | (go_simp; rfl)); intro g1 w1 b hg hb; have ST := Lib.hid (S1.made b hg hb); clear b hg hb)
    | ((with_reducible refine Step.gate_store (t := 3) rfl ?_); refine Step.store ST.out.one rfl rfl rfl rfl rfl pl_int rfl rfl ?_; intro w3 nb m; replace ST := Lib.hid (ST.out.set1 nb m); clear nb m)
    | ((with_reducible refine Step.gate_store (t := 4) rfl ?_); refine Step.store ST.out.one rfl rfl rfl rfl rfl pl_bool rfl rfl ?_; intro w3 nb m; replace ST := Lib.hid (ST.out.set1 nb m); clear nb m)
    | ((with_reducible refine Step.gate_store (t := 24) rfl ?_); refine Step.storeAll ST.out.one rfl rfl rfl rfl rfl size_inst rfl rfl ?_; intro w3 nb m; replace ST := Lib.hid (ST.out.set1 nb m); clear nb m)
    | ((with_reducible refine Step.gate_load (t := 3) rfl ?_); refine Step.load ST.out.one rfl rfl rfl pl_int rfl ?_)
    | ((with_reducible refine Step.gate_load (t := 4) rfl ?_); refine Step.load ST.out.one rfl rfl rfl pl_bool rfl ?_)
    | ((with_reducible refine Step.gate_load (t := 24) rfl ?_); refine Step.loadAll ST.out.one rfl rfl rfl Try.underlying24 rfl size_inst ?_))
  go_ret
  exact ⟨rfl, ST.out.below⟩

set_option maxHeartbeats 2000000 in
theorem encode_9 (fn rd rs1 rs2 imm sz : Int) (sg : Bool) (w : World) : Calls Try.prog 28 #[.agg #[.int .i64 9, .int .i64 fn, .int .i64 rd, .int .i64 rs1, .int .i64 rs2, .int .i64 imm, .int .i64 sz, .bool sg]] w fun e w' => e = .returned (.int .u32 (bor (encI fn imm) (regW rd rs1 rs2))) ∧ Below w.heap.size w w' := by
  have Q1 := Lib.hid (fun w => calls_same (show Calls Try.prog 46 #[.int .i64 (rd), .int .i64 11, .int .i64 7] w fun e w' => e = .returned (.int .u32 (pt (rd) 5 7)) ∧ w = w' from put_any (rd) 11 7 11 7 rfl rfl (by decide) (by decide) w))
  have Q2 := Lib.hid (fun w => calls_same (show Calls Try.prog 46 #[.int .i64 (rs1), .int .i64 19, .int .i64 15] w fun e w' => e = .returned (.int .u32 (pt (rs1) 5 15)) ∧ w = w' from put_any (rs1) 19 15 19 15 rfl rfl (by decide) (by decide) w))
  have Q3 := Lib.hid (fun w => calls_same (show Calls Try.prog 46 #[.int .i64 (rs2), .int .i64 24, .int .i64 20] w fun e w' => e = .returned (.int .u32 (pt (rs2) 5 20)) ∧ w = w' from put_any (rs2) 24 20 24 20 rfl rfl (by decide) (by decide) w))
  have T0 := Lib.hid (encI_any 9 fn rd rs1 rs2 imm sz sg)
  generalize encI fn imm = p0 at *
  (try unfold regW)
  generalize pt (rd) 5 7 = q1 at *
  generalize pt (rs1) 5 15 = q2 at *
  generalize pt (rs2) 5 20 = q3 at *
  go_enter Try.func28, Try.ntmps28
  go_wp2_with (first
    | ((with_reducible refine one_region (id := 1) (fin := ?fin_1) ST.out ?hm_1 [(8, .pointer (some ⟨g1, 2, none⟩)), (9, .int .i64 (rd)), (10, .int .u32 (q1)), (11, .pointer (some ⟨g1, 3, none⟩)), (12, .int .i64 (rs1)), (13, .int .u32 (q2)), (14, .int .u32 (bits .or .u32 (q1) (q2))), (15, .pointer (some ⟨g1, 4, none⟩)), (16, .int .i64 (rs2)), (17, .int .u32 (q3)), (18, .int .u32 (bits .or .u32 (bits .or .u32 (q1) (q2)) (q3))), (3, .int .u32 (bits .or .u32 (bits .or .u32 (q1) (q2)) (q3)))] ?hord_1 ?hin_1 ?hfin_1 ?hdo_1 ?_); (case hm_1 => rfl); (case hord_1 => kernel_rfl); (case hin_1 => kernel_rfl); (case hfin_1 => (simp only [Reg.puts, Act.put, List.setIfInBounds_toArray, List.set_cons_zero, List.set_cons_succ]; try rfl)); (case hdo_1 => ((repeat' (first | exact stay1_nil | refine stay1_cons ?_ ?_)); all_goals (first | exact stay1_load rfl rfl rfl pl_int rfl rfl | exact stay1_load rfl rfl rfl pl_bool rfl rfl | exact stay1_call rfl rfl (fun X => by go_simp) (fun X => Q1.out X) rfl | exact stay1_call rfl rfl (fun X => by go_simp) (fun X => Q2.out X) rfl | exact stay1_call rfl rfl (fun X => by go_simp) (fun X => Q3.out X) rfl | exact stay1_slot rfl rfl (fun X => by first | (go_simp; done) | (go_simp; rfl))))); intro w' st_; clear ST; have ST := Lib.hid st_; clear st_)
    | (go_at_call 48; (with_reducible refine (T0.out _).mono ?_); rintro e w' ⟨rfl, hb⟩; (try replace PB := Lib.hid (PB.out.below hb)); replace ST := Lib.hid (ST.out.call hb); clear hb)
    | ((with_reducible refine Step.gate_box (t := 24) rfl ?_); refine Step.fresh (cs := #[.int .i64 9, .int .i64 fn, .int .i64 rd, .int .i64 rs1, .int .i64 rs2, .int .i64 imm, .int .i64 sz, .bool sg]) (T := 24) rfl ?hr ?_; (case hr => first | (go_simp; done) | (go_simp; rfl)); intro g1 w1 b hg hb; have ST := Lib.hid (S1.made b hg hb); clear b hg hb)
    | ((with_reducible refine Step.gate_store (t := 3) rfl ?_); refine Step.store ST.out.one rfl rfl rfl rfl rfl pl_int rfl rfl ?_; intro w3 nb m; replace ST := Lib.hid (ST.out.set1 nb m); clear nb m)
    | ((with_reducible refine Step.gate_store (t := 4) rfl ?_); refine Step.store ST.out.one rfl rfl rfl rfl rfl pl_bool rfl rfl ?_; intro w3 nb m; replace ST := Lib.hid (ST.out.set1 nb m); clear nb m)
    | ((with_reducible refine Step.gate_store (t := 24) rfl ?_); refine Step.storeAll ST.out.one rfl rfl rfl rfl rfl size_inst rfl rfl ?_; intro w3 nb m; replace ST := Lib.hid (ST.out.set1 nb m); clear nb m)
    | ((with_reducible refine Step.gate_load (t := 3) rfl ?_); refine Step.load ST.out.one rfl rfl rfl pl_int rfl ?_)
    | ((with_reducible refine Step.gate_load (t := 4) rfl ?_); refine Step.load ST.out.one rfl rfl rfl pl_bool rfl ?_)
    | ((with_reducible refine Step.gate_load (t := 24) rfl ?_); refine Step.loadAll ST.out.one rfl rfl rfl Try.underlying24 rfl size_inst ?_))
  go_ret
  exact ⟨rfl, ST.out.below⟩

set_option maxHeartbeats 2000000 in
theorem encode_8 (fn rd rs1 rs2 imm sz : Int) (sg : Bool) (E : Int) (T0 : Hid (∀ w, Calls Try.prog 49 #[.agg #[.int .i64 8, .int .i64 fn, .int .i64 rd, .int .i64 rs1, .int .i64 rs2, .int .i64 imm, .int .i64 sz, .bool sg]] w fun e w' => e = .returned (.int .u32 (E)) ∧ Below w.heap.size w w')) (w : World) : Calls Try.prog 28 #[.agg #[.int .i64 8, .int .i64 fn, .int .i64 rd, .int .i64 rs1, .int .i64 rs2, .int .i64 imm, .int .i64 sz, .bool sg]] w fun e w' => e = .returned (.int .u32 (bor (E) (regW rd rs1 rs2))) ∧ Below w.heap.size w w' := by
  have Q1 := Lib.hid (fun w => calls_same (show Calls Try.prog 46 #[.int .i64 (rd), .int .i64 11, .int .i64 7] w fun e w' => e = .returned (.int .u32 (pt (rd) 5 7)) ∧ w = w' from put_any (rd) 11 7 11 7 rfl rfl (by decide) (by decide) w))
  have Q2 := Lib.hid (fun w => calls_same (show Calls Try.prog 46 #[.int .i64 (rs1), .int .i64 19, .int .i64 15] w fun e w' => e = .returned (.int .u32 (pt (rs1) 5 15)) ∧ w = w' from put_any (rs1) 19 15 19 15 rfl rfl (by decide) (by decide) w))
  have Q3 := Lib.hid (fun w => calls_same (show Calls Try.prog 46 #[.int .i64 (rs2), .int .i64 24, .int .i64 20] w fun e w' => e = .returned (.int .u32 (pt (rs2) 5 20)) ∧ w = w' from put_any (rs2) 24 20 24 20 rfl rfl (by decide) (by decide) w))
  (try unfold regW)
  generalize pt (rd) 5 7 = q1 at *
  generalize pt (rs1) 5 15 = q2 at *
  generalize pt (rs2) 5 20 = q3 at *
  go_enter Try.func28, Try.ntmps28
  go_wp2_with (first
    | ((with_reducible refine one_region (id := 1) (fin := ?fin_1) ST.out ?hm_1 [(8, .pointer (some ⟨g1, 2, none⟩)), (9, .int .i64 (rd)), (10, .int .u32 (q1)), (11, .pointer (some ⟨g1, 3, none⟩)), (12, .int .i64 (rs1)), (13, .int .u32 (q2)), (14, .int .u32 (bits .or .u32 (q1) (q2))), (15, .pointer (some ⟨g1, 4, none⟩)), (16, .int .i64 (rs2)), (17, .int .u32 (q3)), (18, .int .u32 (bits .or .u32 (bits .or .u32 (q1) (q2)) (q3))), (3, .int .u32 (bits .or .u32 (bits .or .u32 (q1) (q2)) (q3)))] ?hord_1 ?hin_1 ?hfin_1 ?hdo_1 ?_); (case hm_1 => rfl); (case hord_1 => kernel_rfl); (case hin_1 => kernel_rfl); (case hfin_1 => (simp only [Reg.puts, Act.put, List.setIfInBounds_toArray, List.set_cons_zero, List.set_cons_succ]; try rfl)); (case hdo_1 => ((repeat' (first | exact stay1_nil | refine stay1_cons ?_ ?_)); all_goals (first | exact stay1_load rfl rfl rfl pl_int rfl rfl | exact stay1_load rfl rfl rfl pl_bool rfl rfl | exact stay1_call rfl rfl (fun X => by go_simp) (fun X => Q1.out X) rfl | exact stay1_call rfl rfl (fun X => by go_simp) (fun X => Q2.out X) rfl | exact stay1_call rfl rfl (fun X => by go_simp) (fun X => Q3.out X) rfl | exact stay1_slot rfl rfl (fun X => by first | (go_simp; done) | (go_simp; rfl))))); intro w' st_; clear ST; have ST := Lib.hid st_; clear st_)
    | (go_at_call 49; (with_reducible refine (T0.out _).mono ?_); rintro e w' ⟨rfl, hb⟩; (try replace PB := Lib.hid (PB.out.below hb)); replace ST := Lib.hid (ST.out.call hb); clear hb)
    | ((with_reducible refine Step.gate_box (t := 24) rfl ?_); refine Step.fresh (cs := #[.int .i64 8, .int .i64 fn, .int .i64 rd, .int .i64 rs1, .int .i64 rs2, .int .i64 imm, .int .i64 sz, .bool sg]) (T := 24) rfl ?hr ?_; (case hr => first | (go_simp; done) | (go_simp; rfl)); intro g1 w1 b hg hb; have ST := Lib.hid (S1.made b hg hb); clear b hg hb)
    | ((with_reducible refine Step.gate_store (t := 3) rfl ?_); refine Step.store ST.out.one rfl rfl rfl rfl rfl pl_int rfl rfl ?_; intro w3 nb m; replace ST := Lib.hid (ST.out.set1 nb m); clear nb m)
    | ((with_reducible refine Step.gate_store (t := 4) rfl ?_); refine Step.store ST.out.one rfl rfl rfl rfl rfl pl_bool rfl rfl ?_; intro w3 nb m; replace ST := Lib.hid (ST.out.set1 nb m); clear nb m)
    | ((with_reducible refine Step.gate_store (t := 24) rfl ?_); refine Step.storeAll ST.out.one rfl rfl rfl rfl rfl size_inst rfl rfl ?_; intro w3 nb m; replace ST := Lib.hid (ST.out.set1 nb m); clear nb m)
    | ((with_reducible refine Step.gate_load (t := 3) rfl ?_); refine Step.load ST.out.one rfl rfl rfl pl_int rfl ?_)
    | ((with_reducible refine Step.gate_load (t := 4) rfl ?_); refine Step.load ST.out.one rfl rfl rfl pl_bool rfl ?_)
    | ((with_reducible refine Step.gate_load (t := 24) rfl ?_); refine Step.loadAll ST.out.one rfl rfl rfl Try.underlying24 rfl size_inst ?_))
  go_ret
  exact ⟨rfl, ST.out.below⟩

set_option maxHeartbeats 2000000 in
theorem encode_10 (fn rd rs1 rs2 imm sz : Int) (sg : Bool) (w : World) : Calls Try.prog 28 #[.agg #[.int .i64 10, .int .i64 fn, .int .i64 rd, .int .i64 rs1, .int .i64 rs2, .int .i64 imm, .int .i64 sz, .bool sg]] w fun e w' => e = .returned (.int .u32 (15)) ∧ Below w.heap.size w w' := by
  have Q1 := Lib.hid (fun w => calls_same (show Calls Try.prog 46 #[.int .i64 (rd), .int .i64 11, .int .i64 7] w fun e w' => e = .returned (.int .u32 (pt (rd) 5 7)) ∧ w = w' from put_any (rd) 11 7 11 7 rfl rfl (by decide) (by decide) w))
  have Q2 := Lib.hid (fun w => calls_same (show Calls Try.prog 46 #[.int .i64 (rs1), .int .i64 19, .int .i64 15] w fun e w' => e = .returned (.int .u32 (pt (rs1) 5 15)) ∧ w = w' from put_any (rs1) 19 15 19 15 rfl rfl (by decide) (by decide) w))
  have Q3 := Lib.hid (fun w => calls_same (show Calls Try.prog 46 #[.int .i64 (rs2), .int .i64 24, .int .i64 20] w fun e w' => e = .returned (.int .u32 (pt (rs2) 5 20)) ∧ w = w' from put_any (rs2) 24 20 24 20 rfl rfl (by decide) (by decide) w))
  (try unfold regW)
  generalize pt (rd) 5 7 = q1 at *
  generalize pt (rs1) 5 15 = q2 at *
  generalize pt (rs2) 5 20 = q3 at *
  go_enter Try.func28, Try.ntmps28
  go_wp2_with (first
    | ((with_reducible refine one_region (id := 1) (fin := ?fin_1) ST.out ?hm_1 [(8, .pointer (some ⟨g1, 2, none⟩)), (9, .int .i64 (rd)), (10, .int .u32 (q1)), (11, .pointer (some ⟨g1, 3, none⟩)), (12, .int .i64 (rs1)), (13, .int .u32 (q2)), (14, .int .u32 (bits .or .u32 (q1) (q2))), (15, .pointer (some ⟨g1, 4, none⟩)), (16, .int .i64 (rs2)), (17, .int .u32 (q3)), (18, .int .u32 (bits .or .u32 (bits .or .u32 (q1) (q2)) (q3))), (3, .int .u32 (bits .or .u32 (bits .or .u32 (q1) (q2)) (q3)))] ?hord_1 ?hin_1 ?hfin_1 ?hdo_1 ?_); (case hm_1 => rfl); (case hord_1 => kernel_rfl); (case hin_1 => kernel_rfl); (case hfin_1 => (simp only [Reg.puts, Act.put, List.setIfInBounds_toArray, List.set_cons_zero, List.set_cons_succ]; try rfl)); (case hdo_1 => ((repeat' (first | exact stay1_nil | refine stay1_cons ?_ ?_)); all_goals (first | exact stay1_load rfl rfl rfl pl_int rfl rfl | exact stay1_load rfl rfl rfl pl_bool rfl rfl | exact stay1_call rfl rfl (fun X => by go_simp) (fun X => Q1.out X) rfl | exact stay1_call rfl rfl (fun X => by go_simp) (fun X => Q2.out X) rfl | exact stay1_call rfl rfl (fun X => by go_simp) (fun X => Q3.out X) rfl | exact stay1_slot rfl rfl (fun X => by first | (go_simp; done) | (go_simp; rfl))))); intro w' st_; clear ST; have ST := Lib.hid st_; clear st_)
    | ((with_reducible refine Step.gate_box (t := 24) rfl ?_); refine Step.fresh (cs := #[.int .i64 10, .int .i64 fn, .int .i64 rd, .int .i64 rs1, .int .i64 rs2, .int .i64 imm, .int .i64 sz, .bool sg]) (T := 24) rfl ?hr ?_; (case hr => first | (go_simp; done) | (go_simp; rfl)); intro g1 w1 b hg hb; have ST := Lib.hid (S1.made b hg hb); clear b hg hb)
    | ((with_reducible refine Step.gate_store (t := 3) rfl ?_); refine Step.store ST.out.one rfl rfl rfl rfl rfl pl_int rfl rfl ?_; intro w3 nb m; replace ST := Lib.hid (ST.out.set1 nb m); clear nb m)
    | ((with_reducible refine Step.gate_store (t := 4) rfl ?_); refine Step.store ST.out.one rfl rfl rfl rfl rfl pl_bool rfl rfl ?_; intro w3 nb m; replace ST := Lib.hid (ST.out.set1 nb m); clear nb m)
    | ((with_reducible refine Step.gate_store (t := 24) rfl ?_); refine Step.storeAll ST.out.one rfl rfl rfl rfl rfl size_inst rfl rfl ?_; intro w3 nb m; replace ST := Lib.hid (ST.out.set1 nb m); clear nb m)
    | ((with_reducible refine Step.gate_load (t := 3) rfl ?_); refine Step.load ST.out.one rfl rfl rfl pl_int rfl ?_)
    | ((with_reducible refine Step.gate_load (t := 4) rfl ?_); refine Step.load ST.out.one rfl rfl rfl pl_bool rfl ?_)
    | ((with_reducible refine Step.gate_load (t := 24) rfl ?_); refine Step.loadAll ST.out.one rfl rfl rfl Try.underlying24 rfl size_inst ?_))
  go_ret
  exact ⟨rfl, ST.out.below⟩

set_option maxHeartbeats 2000000 in
theorem encode_11 (fn rd rs1 rs2 imm sz : Int) (sg : Bool) (w : World) : Calls Try.prog 28 #[.agg #[.int .i64 11, .int .i64 fn, .int .i64 rd, .int .i64 rs1, .int .i64 rs2, .int .i64 imm, .int .i64 sz, .bool sg]] w fun e w' => e = .returned (.int .u32 (115)) ∧ Below w.heap.size w w' := by
  have Q1 := Lib.hid (fun w => calls_same (show Calls Try.prog 46 #[.int .i64 (rd), .int .i64 11, .int .i64 7] w fun e w' => e = .returned (.int .u32 (pt (rd) 5 7)) ∧ w = w' from put_any (rd) 11 7 11 7 rfl rfl (by decide) (by decide) w))
  have Q2 := Lib.hid (fun w => calls_same (show Calls Try.prog 46 #[.int .i64 (rs1), .int .i64 19, .int .i64 15] w fun e w' => e = .returned (.int .u32 (pt (rs1) 5 15)) ∧ w = w' from put_any (rs1) 19 15 19 15 rfl rfl (by decide) (by decide) w))
  have Q3 := Lib.hid (fun w => calls_same (show Calls Try.prog 46 #[.int .i64 (rs2), .int .i64 24, .int .i64 20] w fun e w' => e = .returned (.int .u32 (pt (rs2) 5 20)) ∧ w = w' from put_any (rs2) 24 20 24 20 rfl rfl (by decide) (by decide) w))
  (try unfold regW)
  generalize pt (rd) 5 7 = q1 at *
  generalize pt (rs1) 5 15 = q2 at *
  generalize pt (rs2) 5 20 = q3 at *
  go_enter Try.func28, Try.ntmps28
  go_wp2_with (first
    | ((with_reducible refine one_region (id := 1) (fin := ?fin_1) ST.out ?hm_1 [(8, .pointer (some ⟨g1, 2, none⟩)), (9, .int .i64 (rd)), (10, .int .u32 (q1)), (11, .pointer (some ⟨g1, 3, none⟩)), (12, .int .i64 (rs1)), (13, .int .u32 (q2)), (14, .int .u32 (bits .or .u32 (q1) (q2))), (15, .pointer (some ⟨g1, 4, none⟩)), (16, .int .i64 (rs2)), (17, .int .u32 (q3)), (18, .int .u32 (bits .or .u32 (bits .or .u32 (q1) (q2)) (q3))), (3, .int .u32 (bits .or .u32 (bits .or .u32 (q1) (q2)) (q3)))] ?hord_1 ?hin_1 ?hfin_1 ?hdo_1 ?_); (case hm_1 => rfl); (case hord_1 => kernel_rfl); (case hin_1 => kernel_rfl); (case hfin_1 => (simp only [Reg.puts, Act.put, List.setIfInBounds_toArray, List.set_cons_zero, List.set_cons_succ]; try rfl)); (case hdo_1 => ((repeat' (first | exact stay1_nil | refine stay1_cons ?_ ?_)); all_goals (first | exact stay1_load rfl rfl rfl pl_int rfl rfl | exact stay1_load rfl rfl rfl pl_bool rfl rfl | exact stay1_call rfl rfl (fun X => by go_simp) (fun X => Q1.out X) rfl | exact stay1_call rfl rfl (fun X => by go_simp) (fun X => Q2.out X) rfl | exact stay1_call rfl rfl (fun X => by go_simp) (fun X => Q3.out X) rfl | exact stay1_slot rfl rfl (fun X => by first | (go_simp; done) | (go_simp; rfl))))); intro w' st_; clear ST; have ST := Lib.hid st_; clear st_)
    | ((with_reducible refine Step.gate_box (t := 24) rfl ?_); refine Step.fresh (cs := #[.int .i64 11, .int .i64 fn, .int .i64 rd, .int .i64 rs1, .int .i64 rs2, .int .i64 imm, .int .i64 sz, .bool sg]) (T := 24) rfl ?hr ?_; (case hr => first | (go_simp; done) | (go_simp; rfl)); intro g1 w1 b hg hb; have ST := Lib.hid (S1.made b hg hb); clear b hg hb)
    | ((with_reducible refine Step.gate_store (t := 3) rfl ?_); refine Step.store ST.out.one rfl rfl rfl rfl rfl pl_int rfl rfl ?_; intro w3 nb m; replace ST := Lib.hid (ST.out.set1 nb m); clear nb m)
    | ((with_reducible refine Step.gate_store (t := 4) rfl ?_); refine Step.store ST.out.one rfl rfl rfl rfl rfl pl_bool rfl rfl ?_; intro w3 nb m; replace ST := Lib.hid (ST.out.set1 nb m); clear nb m)
    | ((with_reducible refine Step.gate_store (t := 24) rfl ?_); refine Step.storeAll ST.out.one rfl rfl rfl rfl rfl size_inst rfl rfl ?_; intro w3 nb m; replace ST := Lib.hid (ST.out.set1 nb m); clear nb m)
    | ((with_reducible refine Step.gate_load (t := 3) rfl ?_); refine Step.load ST.out.one rfl rfl rfl pl_int rfl ?_)
    | ((with_reducible refine Step.gate_load (t := 4) rfl ?_); refine Step.load ST.out.one rfl rfl rfl pl_bool rfl ?_)
    | ((with_reducible refine Step.gate_load (t := 24) rfl ?_); refine Step.loadAll ST.out.one rfl rfl rfl Try.underlying24 rfl size_inst ?_))
  go_ret
  exact ⟨rfl, ST.out.below⟩

set_option maxHeartbeats 2000000 in
theorem encode_12 (fn rd rs1 rs2 imm sz : Int) (sg : Bool) (w : World) : Calls Try.prog 28 #[.agg #[.int .i64 12, .int .i64 fn, .int .i64 rd, .int .i64 rs1, .int .i64 rs2, .int .i64 imm, .int .i64 sz, .bool sg]] w fun e w' => e = .returned (.int .u32 (1048691)) ∧ Below w.heap.size w w' := by
  have Q1 := Lib.hid (fun w => calls_same (show Calls Try.prog 46 #[.int .i64 (rd), .int .i64 11, .int .i64 7] w fun e w' => e = .returned (.int .u32 (pt (rd) 5 7)) ∧ w = w' from put_any (rd) 11 7 11 7 rfl rfl (by decide) (by decide) w))
  have Q2 := Lib.hid (fun w => calls_same (show Calls Try.prog 46 #[.int .i64 (rs1), .int .i64 19, .int .i64 15] w fun e w' => e = .returned (.int .u32 (pt (rs1) 5 15)) ∧ w = w' from put_any (rs1) 19 15 19 15 rfl rfl (by decide) (by decide) w))
  have Q3 := Lib.hid (fun w => calls_same (show Calls Try.prog 46 #[.int .i64 (rs2), .int .i64 24, .int .i64 20] w fun e w' => e = .returned (.int .u32 (pt (rs2) 5 20)) ∧ w = w' from put_any (rs2) 24 20 24 20 rfl rfl (by decide) (by decide) w))
  (try unfold regW)
  generalize pt (rd) 5 7 = q1 at *
  generalize pt (rs1) 5 15 = q2 at *
  generalize pt (rs2) 5 20 = q3 at *
  go_enter Try.func28, Try.ntmps28
  go_wp2_with (first
    | ((with_reducible refine one_region (id := 1) (fin := ?fin_1) ST.out ?hm_1 [(8, .pointer (some ⟨g1, 2, none⟩)), (9, .int .i64 (rd)), (10, .int .u32 (q1)), (11, .pointer (some ⟨g1, 3, none⟩)), (12, .int .i64 (rs1)), (13, .int .u32 (q2)), (14, .int .u32 (bits .or .u32 (q1) (q2))), (15, .pointer (some ⟨g1, 4, none⟩)), (16, .int .i64 (rs2)), (17, .int .u32 (q3)), (18, .int .u32 (bits .or .u32 (bits .or .u32 (q1) (q2)) (q3))), (3, .int .u32 (bits .or .u32 (bits .or .u32 (q1) (q2)) (q3)))] ?hord_1 ?hin_1 ?hfin_1 ?hdo_1 ?_); (case hm_1 => rfl); (case hord_1 => kernel_rfl); (case hin_1 => kernel_rfl); (case hfin_1 => (simp only [Reg.puts, Act.put, List.setIfInBounds_toArray, List.set_cons_zero, List.set_cons_succ]; try rfl)); (case hdo_1 => ((repeat' (first | exact stay1_nil | refine stay1_cons ?_ ?_)); all_goals (first | exact stay1_load rfl rfl rfl pl_int rfl rfl | exact stay1_load rfl rfl rfl pl_bool rfl rfl | exact stay1_call rfl rfl (fun X => by go_simp) (fun X => Q1.out X) rfl | exact stay1_call rfl rfl (fun X => by go_simp) (fun X => Q2.out X) rfl | exact stay1_call rfl rfl (fun X => by go_simp) (fun X => Q3.out X) rfl | exact stay1_slot rfl rfl (fun X => by first | (go_simp; done) | (go_simp; rfl))))); intro w' st_; clear ST; have ST := Lib.hid st_; clear st_)
    | ((with_reducible refine Step.gate_box (t := 24) rfl ?_); refine Step.fresh (cs := #[.int .i64 12, .int .i64 fn, .int .i64 rd, .int .i64 rs1, .int .i64 rs2, .int .i64 imm, .int .i64 sz, .bool sg]) (T := 24) rfl ?hr ?_; (case hr => first | (go_simp; done) | (go_simp; rfl)); intro g1 w1 b hg hb; have ST := Lib.hid (S1.made b hg hb); clear b hg hb)
    | ((with_reducible refine Step.gate_store (t := 3) rfl ?_); refine Step.store ST.out.one rfl rfl rfl rfl rfl pl_int rfl rfl ?_; intro w3 nb m; replace ST := Lib.hid (ST.out.set1 nb m); clear nb m)
    | ((with_reducible refine Step.gate_store (t := 4) rfl ?_); refine Step.store ST.out.one rfl rfl rfl rfl rfl pl_bool rfl rfl ?_; intro w3 nb m; replace ST := Lib.hid (ST.out.set1 nb m); clear nb m)
    | ((with_reducible refine Step.gate_store (t := 24) rfl ?_); refine Step.storeAll ST.out.one rfl rfl rfl rfl rfl size_inst rfl rfl ?_; intro w3 nb m; replace ST := Lib.hid (ST.out.set1 nb m); clear nb m)
    | ((with_reducible refine Step.gate_load (t := 3) rfl ?_); refine Step.load ST.out.one rfl rfl rfl pl_int rfl ?_)
    | ((with_reducible refine Step.gate_load (t := 4) rfl ?_); refine Step.load ST.out.one rfl rfl rfl pl_bool rfl ?_)
    | ((with_reducible refine Step.gate_load (t := 24) rfl ?_); refine Step.loadAll ST.out.one rfl rfl rfl Try.underlying24 rfl size_inst ?_))
  go_ret
  exact ⟨rfl, ST.out.below⟩

set_option maxHeartbeats 2000000 in
theorem encode_18 (fn rd rs1 rs2 imm sz : Int) (sg : Bool) (w : World) : Calls Try.prog 28 #[.agg #[.int .i64 18, .int .i64 fn, .int .i64 rd, .int .i64 rs1, .int .i64 rs2, .int .i64 imm, .int .i64 sz, .bool sg]] w fun e w' => e = .returned (.int .u32 (270532723)) ∧ Below w.heap.size w w' := by
  have Q1 := Lib.hid (fun w => calls_same (show Calls Try.prog 46 #[.int .i64 (rd), .int .i64 11, .int .i64 7] w fun e w' => e = .returned (.int .u32 (pt (rd) 5 7)) ∧ w = w' from put_any (rd) 11 7 11 7 rfl rfl (by decide) (by decide) w))
  have Q2 := Lib.hid (fun w => calls_same (show Calls Try.prog 46 #[.int .i64 (rs1), .int .i64 19, .int .i64 15] w fun e w' => e = .returned (.int .u32 (pt (rs1) 5 15)) ∧ w = w' from put_any (rs1) 19 15 19 15 rfl rfl (by decide) (by decide) w))
  have Q3 := Lib.hid (fun w => calls_same (show Calls Try.prog 46 #[.int .i64 (rs2), .int .i64 24, .int .i64 20] w fun e w' => e = .returned (.int .u32 (pt (rs2) 5 20)) ∧ w = w' from put_any (rs2) 24 20 24 20 rfl rfl (by decide) (by decide) w))
  (try unfold regW)
  generalize pt (rd) 5 7 = q1 at *
  generalize pt (rs1) 5 15 = q2 at *
  generalize pt (rs2) 5 20 = q3 at *
  go_enter Try.func28, Try.ntmps28
  go_wp2_with (first
    | ((with_reducible refine one_region (id := 1) (fin := ?fin_1) ST.out ?hm_1 [(8, .pointer (some ⟨g1, 2, none⟩)), (9, .int .i64 (rd)), (10, .int .u32 (q1)), (11, .pointer (some ⟨g1, 3, none⟩)), (12, .int .i64 (rs1)), (13, .int .u32 (q2)), (14, .int .u32 (bits .or .u32 (q1) (q2))), (15, .pointer (some ⟨g1, 4, none⟩)), (16, .int .i64 (rs2)), (17, .int .u32 (q3)), (18, .int .u32 (bits .or .u32 (bits .or .u32 (q1) (q2)) (q3))), (3, .int .u32 (bits .or .u32 (bits .or .u32 (q1) (q2)) (q3)))] ?hord_1 ?hin_1 ?hfin_1 ?hdo_1 ?_); (case hm_1 => rfl); (case hord_1 => kernel_rfl); (case hin_1 => kernel_rfl); (case hfin_1 => (simp only [Reg.puts, Act.put, List.setIfInBounds_toArray, List.set_cons_zero, List.set_cons_succ]; try rfl)); (case hdo_1 => ((repeat' (first | exact stay1_nil | refine stay1_cons ?_ ?_)); all_goals (first | exact stay1_load rfl rfl rfl pl_int rfl rfl | exact stay1_load rfl rfl rfl pl_bool rfl rfl | exact stay1_call rfl rfl (fun X => by go_simp) (fun X => Q1.out X) rfl | exact stay1_call rfl rfl (fun X => by go_simp) (fun X => Q2.out X) rfl | exact stay1_call rfl rfl (fun X => by go_simp) (fun X => Q3.out X) rfl | exact stay1_slot rfl rfl (fun X => by first | (go_simp; done) | (go_simp; rfl))))); intro w' st_; clear ST; have ST := Lib.hid st_; clear st_)
    | ((with_reducible refine Step.gate_box (t := 24) rfl ?_); refine Step.fresh (cs := #[.int .i64 18, .int .i64 fn, .int .i64 rd, .int .i64 rs1, .int .i64 rs2, .int .i64 imm, .int .i64 sz, .bool sg]) (T := 24) rfl ?hr ?_; (case hr => first | (go_simp; done) | (go_simp; rfl)); intro g1 w1 b hg hb; have ST := Lib.hid (S1.made b hg hb); clear b hg hb)
    | ((with_reducible refine Step.gate_store (t := 3) rfl ?_); refine Step.store ST.out.one rfl rfl rfl rfl rfl pl_int rfl rfl ?_; intro w3 nb m; replace ST := Lib.hid (ST.out.set1 nb m); clear nb m)
    | ((with_reducible refine Step.gate_store (t := 4) rfl ?_); refine Step.store ST.out.one rfl rfl rfl rfl rfl pl_bool rfl rfl ?_; intro w3 nb m; replace ST := Lib.hid (ST.out.set1 nb m); clear nb m)
    | ((with_reducible refine Step.gate_store (t := 24) rfl ?_); refine Step.storeAll ST.out.one rfl rfl rfl rfl rfl size_inst rfl rfl ?_; intro w3 nb m; replace ST := Lib.hid (ST.out.set1 nb m); clear nb m)
    | ((with_reducible refine Step.gate_load (t := 3) rfl ?_); refine Step.load ST.out.one rfl rfl rfl pl_int rfl ?_)
    | ((with_reducible refine Step.gate_load (t := 4) rfl ?_); refine Step.load ST.out.one rfl rfl rfl pl_bool rfl ?_)
    | ((with_reducible refine Step.gate_load (t := 24) rfl ?_); refine Step.loadAll ST.out.one rfl rfl rfl Try.underlying24 rfl size_inst ?_))
  go_ret
  exact ⟨rfl, ST.out.below⟩

set_option maxHeartbeats 2000000 in
theorem encode_19 (fn rd rs1 rs2 imm sz : Int) (sg : Bool) (w : World) : Calls Try.prog 28 #[.agg #[.int .i64 19, .int .i64 fn, .int .i64 rd, .int .i64 rs1, .int .i64 rs2, .int .i64 imm, .int .i64 sz, .bool sg]] w fun e w' => e = .returned (.int .u32 (273678451)) ∧ Below w.heap.size w w' := by
  have Q1 := Lib.hid (fun w => calls_same (show Calls Try.prog 46 #[.int .i64 (rd), .int .i64 11, .int .i64 7] w fun e w' => e = .returned (.int .u32 (pt (rd) 5 7)) ∧ w = w' from put_any (rd) 11 7 11 7 rfl rfl (by decide) (by decide) w))
  have Q2 := Lib.hid (fun w => calls_same (show Calls Try.prog 46 #[.int .i64 (rs1), .int .i64 19, .int .i64 15] w fun e w' => e = .returned (.int .u32 (pt (rs1) 5 15)) ∧ w = w' from put_any (rs1) 19 15 19 15 rfl rfl (by decide) (by decide) w))
  have Q3 := Lib.hid (fun w => calls_same (show Calls Try.prog 46 #[.int .i64 (rs2), .int .i64 24, .int .i64 20] w fun e w' => e = .returned (.int .u32 (pt (rs2) 5 20)) ∧ w = w' from put_any (rs2) 24 20 24 20 rfl rfl (by decide) (by decide) w))
  (try unfold regW)
  generalize pt (rd) 5 7 = q1 at *
  generalize pt (rs1) 5 15 = q2 at *
  generalize pt (rs2) 5 20 = q3 at *
  go_enter Try.func28, Try.ntmps28
  go_wp2_with (first
    | ((with_reducible refine one_region (id := 1) (fin := ?fin_1) ST.out ?hm_1 [(8, .pointer (some ⟨g1, 2, none⟩)), (9, .int .i64 (rd)), (10, .int .u32 (q1)), (11, .pointer (some ⟨g1, 3, none⟩)), (12, .int .i64 (rs1)), (13, .int .u32 (q2)), (14, .int .u32 (bits .or .u32 (q1) (q2))), (15, .pointer (some ⟨g1, 4, none⟩)), (16, .int .i64 (rs2)), (17, .int .u32 (q3)), (18, .int .u32 (bits .or .u32 (bits .or .u32 (q1) (q2)) (q3))), (3, .int .u32 (bits .or .u32 (bits .or .u32 (q1) (q2)) (q3)))] ?hord_1 ?hin_1 ?hfin_1 ?hdo_1 ?_); (case hm_1 => rfl); (case hord_1 => kernel_rfl); (case hin_1 => kernel_rfl); (case hfin_1 => (simp only [Reg.puts, Act.put, List.setIfInBounds_toArray, List.set_cons_zero, List.set_cons_succ]; try rfl)); (case hdo_1 => ((repeat' (first | exact stay1_nil | refine stay1_cons ?_ ?_)); all_goals (first | exact stay1_load rfl rfl rfl pl_int rfl rfl | exact stay1_load rfl rfl rfl pl_bool rfl rfl | exact stay1_call rfl rfl (fun X => by go_simp) (fun X => Q1.out X) rfl | exact stay1_call rfl rfl (fun X => by go_simp) (fun X => Q2.out X) rfl | exact stay1_call rfl rfl (fun X => by go_simp) (fun X => Q3.out X) rfl | exact stay1_slot rfl rfl (fun X => by first | (go_simp; done) | (go_simp; rfl))))); intro w' st_; clear ST; have ST := Lib.hid st_; clear st_)
    | ((with_reducible refine Step.gate_box (t := 24) rfl ?_); refine Step.fresh (cs := #[.int .i64 19, .int .i64 fn, .int .i64 rd, .int .i64 rs1, .int .i64 rs2, .int .i64 imm, .int .i64 sz, .bool sg]) (T := 24) rfl ?hr ?_; (case hr => first | (go_simp; done) | (go_simp; rfl)); intro g1 w1 b hg hb; have ST := Lib.hid (S1.made b hg hb); clear b hg hb)
    | ((with_reducible refine Step.gate_store (t := 3) rfl ?_); refine Step.store ST.out.one rfl rfl rfl rfl rfl pl_int rfl rfl ?_; intro w3 nb m; replace ST := Lib.hid (ST.out.set1 nb m); clear nb m)
    | ((with_reducible refine Step.gate_store (t := 4) rfl ?_); refine Step.store ST.out.one rfl rfl rfl rfl rfl pl_bool rfl rfl ?_; intro w3 nb m; replace ST := Lib.hid (ST.out.set1 nb m); clear nb m)
    | ((with_reducible refine Step.gate_store (t := 24) rfl ?_); refine Step.storeAll ST.out.one rfl rfl rfl rfl rfl size_inst rfl rfl ?_; intro w3 nb m; replace ST := Lib.hid (ST.out.set1 nb m); clear nb m)
    | ((with_reducible refine Step.gate_load (t := 3) rfl ?_); refine Step.load ST.out.one rfl rfl rfl pl_int rfl ?_)
    | ((with_reducible refine Step.gate_load (t := 4) rfl ?_); refine Step.load ST.out.one rfl rfl rfl pl_bool rfl ?_)
    | ((with_reducible refine Step.gate_load (t := 24) rfl ?_); refine Step.loadAll ST.out.one rfl rfl rfl Try.underlying24 rfl size_inst ?_))
  go_ret
  exact ⟨rfl, ST.out.below⟩

set_option maxHeartbeats 2000000 in
theorem encode_20 (fn rd rs1 rs2 imm sz : Int) (sg : Bool) (w : World) : Calls Try.prog 28 #[.agg #[.int .i64 20, .int .i64 fn, .int .i64 rd, .int .i64 rs1, .int .i64 rs2, .int .i64 imm, .int .i64 sz, .bool sg]] w fun e w' => e = .returned (.int .u32 (bor (301990003) (regW rd rs1 rs2))) ∧ Below w.heap.size w w' := by
  have Q1 := Lib.hid (fun w => calls_same (show Calls Try.prog 46 #[.int .i64 (rd), .int .i64 11, .int .i64 7] w fun e w' => e = .returned (.int .u32 (pt (rd) 5 7)) ∧ w = w' from put_any (rd) 11 7 11 7 rfl rfl (by decide) (by decide) w))
  have Q2 := Lib.hid (fun w => calls_same (show Calls Try.prog 46 #[.int .i64 (rs1), .int .i64 19, .int .i64 15] w fun e w' => e = .returned (.int .u32 (pt (rs1) 5 15)) ∧ w = w' from put_any (rs1) 19 15 19 15 rfl rfl (by decide) (by decide) w))
  have Q3 := Lib.hid (fun w => calls_same (show Calls Try.prog 46 #[.int .i64 (rs2), .int .i64 24, .int .i64 20] w fun e w' => e = .returned (.int .u32 (pt (rs2) 5 20)) ∧ w = w' from put_any (rs2) 24 20 24 20 rfl rfl (by decide) (by decide) w))
  (try unfold regW)
  generalize pt (rd) 5 7 = q1 at *
  generalize pt (rs1) 5 15 = q2 at *
  generalize pt (rs2) 5 20 = q3 at *
  go_enter Try.func28, Try.ntmps28
  go_wp2_with (first
    | ((with_reducible refine one_region (id := 1) (fin := ?fin_1) ST.out ?hm_1 [(8, .pointer (some ⟨g1, 2, none⟩)), (9, .int .i64 (rd)), (10, .int .u32 (q1)), (11, .pointer (some ⟨g1, 3, none⟩)), (12, .int .i64 (rs1)), (13, .int .u32 (q2)), (14, .int .u32 (bits .or .u32 (q1) (q2))), (15, .pointer (some ⟨g1, 4, none⟩)), (16, .int .i64 (rs2)), (17, .int .u32 (q3)), (18, .int .u32 (bits .or .u32 (bits .or .u32 (q1) (q2)) (q3))), (3, .int .u32 (bits .or .u32 (bits .or .u32 (q1) (q2)) (q3)))] ?hord_1 ?hin_1 ?hfin_1 ?hdo_1 ?_); (case hm_1 => rfl); (case hord_1 => kernel_rfl); (case hin_1 => kernel_rfl); (case hfin_1 => (simp only [Reg.puts, Act.put, List.setIfInBounds_toArray, List.set_cons_zero, List.set_cons_succ]; try rfl)); (case hdo_1 => ((repeat' (first | exact stay1_nil | refine stay1_cons ?_ ?_)); all_goals (first | exact stay1_load rfl rfl rfl pl_int rfl rfl | exact stay1_load rfl rfl rfl pl_bool rfl rfl | exact stay1_call rfl rfl (fun X => by go_simp) (fun X => Q1.out X) rfl | exact stay1_call rfl rfl (fun X => by go_simp) (fun X => Q2.out X) rfl | exact stay1_call rfl rfl (fun X => by go_simp) (fun X => Q3.out X) rfl | exact stay1_slot rfl rfl (fun X => by first | (go_simp; done) | (go_simp; rfl))))); intro w' st_; clear ST; have ST := Lib.hid st_; clear st_)
    | ((with_reducible refine Step.gate_box (t := 24) rfl ?_); refine Step.fresh (cs := #[.int .i64 20, .int .i64 fn, .int .i64 rd, .int .i64 rs1, .int .i64 rs2, .int .i64 imm, .int .i64 sz, .bool sg]) (T := 24) rfl ?hr ?_; (case hr => first | (go_simp; done) | (go_simp; rfl)); intro g1 w1 b hg hb; have ST := Lib.hid (S1.made b hg hb); clear b hg hb)
    | ((with_reducible refine Step.gate_store (t := 3) rfl ?_); refine Step.store ST.out.one rfl rfl rfl rfl rfl pl_int rfl rfl ?_; intro w3 nb m; replace ST := Lib.hid (ST.out.set1 nb m); clear nb m)
    | ((with_reducible refine Step.gate_store (t := 4) rfl ?_); refine Step.store ST.out.one rfl rfl rfl rfl rfl pl_bool rfl rfl ?_; intro w3 nb m; replace ST := Lib.hid (ST.out.set1 nb m); clear nb m)
    | ((with_reducible refine Step.gate_store (t := 24) rfl ?_); refine Step.storeAll ST.out.one rfl rfl rfl rfl rfl size_inst rfl rfl ?_; intro w3 nb m; replace ST := Lib.hid (ST.out.set1 nb m); clear nb m)
    | ((with_reducible refine Step.gate_load (t := 3) rfl ?_); refine Step.load ST.out.one rfl rfl rfl pl_int rfl ?_)
    | ((with_reducible refine Step.gate_load (t := 4) rfl ?_); refine Step.load ST.out.one rfl rfl rfl pl_bool rfl ?_)
    | ((with_reducible refine Step.gate_load (t := 24) rfl ?_); refine Step.loadAll ST.out.one rfl rfl rfl Try.underlying24 rfl size_inst ?_))
  go_ret
  exact ⟨rfl, ST.out.below⟩

set_option maxHeartbeats 2000000 in
theorem encode_13 (fn rd rs1 rs2 imm sz : Int) (sg : Bool) (w : World) : Calls Try.prog 28 #[.agg #[.int .i64 13, .int .i64 fn, .int .i64 rd, .int .i64 rs1, .int .i64 rs2, .int .i64 imm, .int .i64 sz, .bool sg]] w fun e w' => e = .returned (.int .u32 (bor (bor (bor (115) (bits .and .u32 (regW rd rs1 rs2) 1048575)) (pt (fn) 2 12)) (pt (imm) 12 20))) ∧ Below w.heap.size w w' := by
  have Q1 := Lib.hid (fun w => calls_same (show Calls Try.prog 46 #[.int .i64 (rd), .int .i64 11, .int .i64 7] w fun e w' => e = .returned (.int .u32 (pt (rd) 5 7)) ∧ w = w' from put_any (rd) 11 7 11 7 rfl rfl (by decide) (by decide) w))
  have Q2 := Lib.hid (fun w => calls_same (show Calls Try.prog 46 #[.int .i64 (rs1), .int .i64 19, .int .i64 15] w fun e w' => e = .returned (.int .u32 (pt (rs1) 5 15)) ∧ w = w' from put_any (rs1) 19 15 19 15 rfl rfl (by decide) (by decide) w))
  have Q3 := Lib.hid (fun w => calls_same (show Calls Try.prog 46 #[.int .i64 (rs2), .int .i64 24, .int .i64 20] w fun e w' => e = .returned (.int .u32 (pt (rs2) 5 20)) ∧ w = w' from put_any (rs2) 24 20 24 20 rfl rfl (by decide) (by decide) w))
  have T0 := Lib.hid (fun w => calls_same (show Calls Try.prog 46 #[.int .i64 (fn), .int .i64 13, .int .i64 12] w fun e w' => e = .returned (.int .u32 (pt (fn) 2 12)) ∧ w = w' from put_any (fn) 13 12 13 12 rfl rfl (by decide) (by decide) w))
  have T1 := Lib.hid (fun w => calls_same (show Calls Try.prog 46 #[.int .i64 (imm), .int .i64 31, .int .i64 20] w fun e w' => e = .returned (.int .u32 (pt (imm) 12 20)) ∧ w = w' from put_any (imm) 31 20 31 20 rfl rfl (by decide) (by decide) w))
  generalize pt (fn) 2 12 = p0 at *
  generalize pt (imm) 12 20 = p1 at *
  (try unfold regW)
  generalize pt (rd) 5 7 = q1 at *
  generalize pt (rs1) 5 15 = q2 at *
  generalize pt (rs2) 5 20 = q3 at *
  go_enter Try.func28, Try.ntmps28
  go_wp2_with (first
    | ((with_reducible refine one_region (id := 1) (fin := ?fin_1) ST.out ?hm_1 [(8, .pointer (some ⟨g1, 2, none⟩)), (9, .int .i64 (rd)), (10, .int .u32 (q1)), (11, .pointer (some ⟨g1, 3, none⟩)), (12, .int .i64 (rs1)), (13, .int .u32 (q2)), (14, .int .u32 (bits .or .u32 (q1) (q2))), (15, .pointer (some ⟨g1, 4, none⟩)), (16, .int .i64 (rs2)), (17, .int .u32 (q3)), (18, .int .u32 (bits .or .u32 (bits .or .u32 (q1) (q2)) (q3))), (3, .int .u32 (bits .or .u32 (bits .or .u32 (q1) (q2)) (q3)))] ?hord_1 ?hin_1 ?hfin_1 ?hdo_1 ?_); (case hm_1 => rfl); (case hord_1 => kernel_rfl); (case hin_1 => kernel_rfl); (case hfin_1 => (simp only [Reg.puts, Act.put, List.setIfInBounds_toArray, List.set_cons_zero, List.set_cons_succ]; try rfl)); (case hdo_1 => ((repeat' (first | exact stay1_nil | refine stay1_cons ?_ ?_)); all_goals (first | exact stay1_load rfl rfl rfl pl_int rfl rfl | exact stay1_load rfl rfl rfl pl_bool rfl rfl | exact stay1_call rfl rfl (fun X => by go_simp) (fun X => Q1.out X) rfl | exact stay1_call rfl rfl (fun X => by go_simp) (fun X => Q2.out X) rfl | exact stay1_call rfl rfl (fun X => by go_simp) (fun X => Q3.out X) rfl | exact stay1_slot rfl rfl (fun X => by first | (go_simp; done) | (go_simp; rfl))))); intro w' st_; clear ST; have ST := Lib.hid st_; clear st_)
    | ((with_reducible refine one_region (id := 38) (fin := ?fin_7) ST.out ?hm_7 [(169, .int .u32 (bits .or .u32 (bits .or .u32 (q1) (q2)) (q3))), (170, .int .u32 (bits .and .u32 (bits .or .u32 (bits .or .u32 (q1) (q2)) (q3)) 1048575)), (171, .int .u32 (bits .or .u32 (115) (bits .and .u32 (bits .or .u32 (bits .or .u32 (q1) (q2)) (q3)) 1048575))), (172, .pointer (some ⟨g1, 1, none⟩)), (173, .int .i64 (fn)), (174, .int .u32 (p0)), (175, .int .u32 (bits .or .u32 (bits .or .u32 (115) (bits .and .u32 (bits .or .u32 (bits .or .u32 (q1) (q2)) (q3)) 1048575)) (p0))), (176, .pointer (some ⟨g1, 5, none⟩)), (177, .int .i64 (imm)), (178, .int .u32 (p1)), (179, .int .u32 (bits .or .u32 (bits .or .u32 (bits .or .u32 (115) (bits .and .u32 (bits .or .u32 (bits .or .u32 (q1) (q2)) (q3)) 1048575)) (p0)) (p1))), (2, .int .u32 (bits .or .u32 (bits .or .u32 (bits .or .u32 (115) (bits .and .u32 (bits .or .u32 (bits .or .u32 (q1) (q2)) (q3)) 1048575)) (p0)) (p1)))] ?hord_7 ?hin_7 ?hfin_7 ?hdo_7 ?_); (case hm_7 => rfl); (case hord_7 => kernel_rfl); (case hin_7 => kernel_rfl); (case hfin_7 => (simp only [Reg.puts, Act.put, List.setIfInBounds_toArray, List.set_cons_zero, List.set_cons_succ]; try rfl)); (case hdo_7 => ((repeat' (first | exact stay1_nil | refine stay1_cons ?_ ?_)); all_goals (first | exact stay1_load rfl rfl rfl pl_int rfl rfl | exact stay1_load rfl rfl rfl pl_bool rfl rfl | exact stay1_call rfl rfl (fun X => by go_simp) (fun X => T0.out X) rfl | exact stay1_call rfl rfl (fun X => by go_simp) (fun X => T1.out X) rfl | exact stay1_slot rfl rfl (fun X => by first | (go_simp; done) | (go_simp; rfl))))); intro w' st_; clear ST; have ST := Lib.hid st_; clear st_)
    | ((with_reducible refine Step.gate_box (t := 24) rfl ?_); refine Step.fresh (cs := #[.int .i64 13, .int .i64 fn, .int .i64 rd, .int .i64 rs1, .int .i64 rs2, .int .i64 imm, .int .i64 sz, .bool sg]) (T := 24) rfl ?hr ?_; (case hr => first | (go_simp; done) | (go_simp; rfl)); intro g1 w1 b hg hb; have ST := Lib.hid (S1.made b hg hb); clear b hg hb)
    | ((with_reducible refine Step.gate_store (t := 3) rfl ?_); refine Step.store ST.out.one rfl rfl rfl rfl rfl pl_int rfl rfl ?_; intro w3 nb m; replace ST := Lib.hid (ST.out.set1 nb m); clear nb m)
    | ((with_reducible refine Step.gate_store (t := 4) rfl ?_); refine Step.store ST.out.one rfl rfl rfl rfl rfl pl_bool rfl rfl ?_; intro w3 nb m; replace ST := Lib.hid (ST.out.set1 nb m); clear nb m)
    | ((with_reducible refine Step.gate_store (t := 24) rfl ?_); refine Step.storeAll ST.out.one rfl rfl rfl rfl rfl size_inst rfl rfl ?_; intro w3 nb m; replace ST := Lib.hid (ST.out.set1 nb m); clear nb m)
    | ((with_reducible refine Step.gate_load (t := 3) rfl ?_); refine Step.load ST.out.one rfl rfl rfl pl_int rfl ?_)
    | ((with_reducible refine Step.gate_load (t := 4) rfl ?_); refine Step.load ST.out.one rfl rfl rfl pl_bool rfl ?_)
    | ((with_reducible refine Step.gate_load (t := 24) rfl ?_); refine Step.loadAll ST.out.one rfl rfl rfl Try.underlying24 rfl size_inst ?_))
  go_ret
  exact ⟨rfl, ST.out.below⟩

set_option maxHeartbeats 2000000 in
theorem encode_14 (fn rd rs1 rs2 imm sz : Int) (sg : Bool) (w : World) : Calls Try.prog 28 #[.agg #[.int .i64 14, .int .i64 fn, .int .i64 rd, .int .i64 rs1, .int .i64 rs2, .int .i64 imm, .int .i64 sz, .bool sg]] w fun e w' => e = .returned (.int .u32 (bor (bor (bor (16499) (bits .and .u32 (regW rd rs1 rs2) 1048575)) (pt (fn) 2 12)) (pt (imm) 12 20))) ∧ Below w.heap.size w w' := by
  have Q1 := Lib.hid (fun w => calls_same (show Calls Try.prog 46 #[.int .i64 (rd), .int .i64 11, .int .i64 7] w fun e w' => e = .returned (.int .u32 (pt (rd) 5 7)) ∧ w = w' from put_any (rd) 11 7 11 7 rfl rfl (by decide) (by decide) w))
  have Q2 := Lib.hid (fun w => calls_same (show Calls Try.prog 46 #[.int .i64 (rs1), .int .i64 19, .int .i64 15] w fun e w' => e = .returned (.int .u32 (pt (rs1) 5 15)) ∧ w = w' from put_any (rs1) 19 15 19 15 rfl rfl (by decide) (by decide) w))
  have Q3 := Lib.hid (fun w => calls_same (show Calls Try.prog 46 #[.int .i64 (rs2), .int .i64 24, .int .i64 20] w fun e w' => e = .returned (.int .u32 (pt (rs2) 5 20)) ∧ w = w' from put_any (rs2) 24 20 24 20 rfl rfl (by decide) (by decide) w))
  have T0 := Lib.hid (fun w => calls_same (show Calls Try.prog 46 #[.int .i64 (fn), .int .i64 13, .int .i64 12] w fun e w' => e = .returned (.int .u32 (pt (fn) 2 12)) ∧ w = w' from put_any (fn) 13 12 13 12 rfl rfl (by decide) (by decide) w))
  have T1 := Lib.hid (fun w => calls_same (show Calls Try.prog 46 #[.int .i64 (imm), .int .i64 31, .int .i64 20] w fun e w' => e = .returned (.int .u32 (pt (imm) 12 20)) ∧ w = w' from put_any (imm) 31 20 31 20 rfl rfl (by decide) (by decide) w))
  generalize pt (fn) 2 12 = p0 at *
  generalize pt (imm) 12 20 = p1 at *
  (try unfold regW)
  generalize pt (rd) 5 7 = q1 at *
  generalize pt (rs1) 5 15 = q2 at *
  generalize pt (rs2) 5 20 = q3 at *
  go_enter Try.func28, Try.ntmps28
  go_wp2_with (first
    | ((with_reducible refine one_region (id := 1) (fin := ?fin_1) ST.out ?hm_1 [(8, .pointer (some ⟨g1, 2, none⟩)), (9, .int .i64 (rd)), (10, .int .u32 (q1)), (11, .pointer (some ⟨g1, 3, none⟩)), (12, .int .i64 (rs1)), (13, .int .u32 (q2)), (14, .int .u32 (bits .or .u32 (q1) (q2))), (15, .pointer (some ⟨g1, 4, none⟩)), (16, .int .i64 (rs2)), (17, .int .u32 (q3)), (18, .int .u32 (bits .or .u32 (bits .or .u32 (q1) (q2)) (q3))), (3, .int .u32 (bits .or .u32 (bits .or .u32 (q1) (q2)) (q3)))] ?hord_1 ?hin_1 ?hfin_1 ?hdo_1 ?_); (case hm_1 => rfl); (case hord_1 => kernel_rfl); (case hin_1 => kernel_rfl); (case hfin_1 => (simp only [Reg.puts, Act.put, List.setIfInBounds_toArray, List.set_cons_zero, List.set_cons_succ]; try rfl)); (case hdo_1 => ((repeat' (first | exact stay1_nil | refine stay1_cons ?_ ?_)); all_goals (first | exact stay1_load rfl rfl rfl pl_int rfl rfl | exact stay1_load rfl rfl rfl pl_bool rfl rfl | exact stay1_call rfl rfl (fun X => by go_simp) (fun X => Q1.out X) rfl | exact stay1_call rfl rfl (fun X => by go_simp) (fun X => Q2.out X) rfl | exact stay1_call rfl rfl (fun X => by go_simp) (fun X => Q3.out X) rfl | exact stay1_slot rfl rfl (fun X => by first | (go_simp; done) | (go_simp; rfl))))); intro w' st_; clear ST; have ST := Lib.hid st_; clear st_)
    | ((with_reducible refine one_region (id := 40) (fin := ?fin_8) ST.out ?hm_8 [(182, .int .u32 (bits .or .u32 (bits .or .u32 (q1) (q2)) (q3))), (183, .int .u32 (bits .and .u32 (bits .or .u32 (bits .or .u32 (q1) (q2)) (q3)) 1048575)), (184, .int .u32 (bits .or .u32 (16499) (bits .and .u32 (bits .or .u32 (bits .or .u32 (q1) (q2)) (q3)) 1048575))), (185, .pointer (some ⟨g1, 1, none⟩)), (186, .int .i64 (fn)), (187, .int .u32 (p0)), (188, .int .u32 (bits .or .u32 (bits .or .u32 (16499) (bits .and .u32 (bits .or .u32 (bits .or .u32 (q1) (q2)) (q3)) 1048575)) (p0))), (189, .pointer (some ⟨g1, 5, none⟩)), (190, .int .i64 (imm)), (191, .int .u32 (p1)), (192, .int .u32 (bits .or .u32 (bits .or .u32 (bits .or .u32 (16499) (bits .and .u32 (bits .or .u32 (bits .or .u32 (q1) (q2)) (q3)) 1048575)) (p0)) (p1))), (2, .int .u32 (bits .or .u32 (bits .or .u32 (bits .or .u32 (16499) (bits .and .u32 (bits .or .u32 (bits .or .u32 (q1) (q2)) (q3)) 1048575)) (p0)) (p1)))] ?hord_8 ?hin_8 ?hfin_8 ?hdo_8 ?_); (case hm_8 => rfl); (case hord_8 => kernel_rfl); (case hin_8 => kernel_rfl); (case hfin_8 => (simp only [Reg.puts, Act.put, List.setIfInBounds_toArray, List.set_cons_zero, List.set_cons_succ]; try rfl)); (case hdo_8 => ((repeat' (first | exact stay1_nil | refine stay1_cons ?_ ?_)); all_goals (first | exact stay1_load rfl rfl rfl pl_int rfl rfl | exact stay1_load rfl rfl rfl pl_bool rfl rfl | exact stay1_call rfl rfl (fun X => by go_simp) (fun X => T0.out X) rfl | exact stay1_call rfl rfl (fun X => by go_simp) (fun X => T1.out X) rfl | exact stay1_slot rfl rfl (fun X => by first | (go_simp; done) | (go_simp; rfl))))); intro w' st_; clear ST; have ST := Lib.hid st_; clear st_)
    | ((with_reducible refine Step.gate_box (t := 24) rfl ?_); refine Step.fresh (cs := #[.int .i64 14, .int .i64 fn, .int .i64 rd, .int .i64 rs1, .int .i64 rs2, .int .i64 imm, .int .i64 sz, .bool sg]) (T := 24) rfl ?hr ?_; (case hr => first | (go_simp; done) | (go_simp; rfl)); intro g1 w1 b hg hb; have ST := Lib.hid (S1.made b hg hb); clear b hg hb)
    | ((with_reducible refine Step.gate_store (t := 3) rfl ?_); refine Step.store ST.out.one rfl rfl rfl rfl rfl pl_int rfl rfl ?_; intro w3 nb m; replace ST := Lib.hid (ST.out.set1 nb m); clear nb m)
    | ((with_reducible refine Step.gate_store (t := 4) rfl ?_); refine Step.store ST.out.one rfl rfl rfl rfl rfl pl_bool rfl rfl ?_; intro w3 nb m; replace ST := Lib.hid (ST.out.set1 nb m); clear nb m)
    | ((with_reducible refine Step.gate_store (t := 24) rfl ?_); refine Step.storeAll ST.out.one rfl rfl rfl rfl rfl size_inst rfl rfl ?_; intro w3 nb m; replace ST := Lib.hid (ST.out.set1 nb m); clear nb m)
    | ((with_reducible refine Step.gate_load (t := 3) rfl ?_); refine Step.load ST.out.one rfl rfl rfl pl_int rfl ?_)
    | ((with_reducible refine Step.gate_load (t := 4) rfl ?_); refine Step.load ST.out.one rfl rfl rfl pl_bool rfl ?_)
    | ((with_reducible refine Step.gate_load (t := 24) rfl ?_); refine Step.loadAll ST.out.one rfl rfl rfl Try.underlying24 rfl size_inst ?_))
  go_ret
  exact ⟨rfl, ST.out.below⟩

set_option maxHeartbeats 2000000 in
theorem encode_15 (fn rd rs1 rs2 imm sz : Int) (sg : Bool) (w : World) : Calls Try.prog 28 #[.agg #[.int .i64 15, .int .i64 fn, .int .i64 rd, .int .i64 rs1, .int .i64 rs2, .int .i64 imm, .int .i64 sz, .bool sg]] w fun e w' => e = .returned (.int .u32 (bor (bor (268435503) (regW rd rs1 rs2)) (pt (ix at2 sz + 2) 3 12))) ∧ Below w.heap.size w w' := by
  have Q1 := Lib.hid (fun w => calls_same (show Calls Try.prog 46 #[.int .i64 (rd), .int .i64 11, .int .i64 7] w fun e w' => e = .returned (.int .u32 (pt (rd) 5 7)) ∧ w = w' from put_any (rd) 11 7 11 7 rfl rfl (by decide) (by decide) w))
  have Q2 := Lib.hid (fun w => calls_same (show Calls Try.prog 46 #[.int .i64 (rs1), .int .i64 19, .int .i64 15] w fun e w' => e = .returned (.int .u32 (pt (rs1) 5 15)) ∧ w = w' from put_any (rs1) 19 15 19 15 rfl rfl (by decide) (by decide) w))
  have Q3 := Lib.hid (fun w => calls_same (show Calls Try.prog 46 #[.int .i64 (rs2), .int .i64 24, .int .i64 20] w fun e w' => e = .returned (.int .u32 (pt (rs2) 5 20)) ∧ w = w' from put_any (rs2) 24 20 24 20 rfl rfl (by decide) (by decide) w))
  have T4 := Lib.hid (fun w => calls_same (show Calls Try.prog 46 #[.int .i64 (ix at2 sz + 2), .int .i64 14, .int .i64 12] w fun e w' => e = .returned (.int .u32 (pt (ix at2 sz + 2) 3 12)) ∧ w = w' from put_any (ix at2 sz + 2) 14 12 14 12 rfl rfl (by decide) (by decide) w))
  have hu : ix ([4, 8] : List Int) sz = ix at2 sz := rfl
  have hb := ix_bd at2 sz
  have hb2 : (at2.length : Int) = 2 := rfl
  rw [hb2] at hb
  clear hb2
  generalize pt (ix at2 sz + 2) 3 12 = p4 at *
  generalize ix at2 sz = u at *
  (try unfold regW)
  generalize pt (rd) 5 7 = q1 at *
  generalize pt (rs1) 5 15 = q2 at *
  generalize pt (rs2) 5 20 = q3 at *
  go_enter Try.func28, Try.ntmps28
  go_wp2_with (first
    | ((with_reducible refine one_region (id := 1) (fin := ?fin_1) ST.out ?hm_1 [(8, .pointer (some ⟨g1, 2, none⟩)), (9, .int .i64 (rd)), (10, .int .u32 (q1)), (11, .pointer (some ⟨g1, 3, none⟩)), (12, .int .i64 (rs1)), (13, .int .u32 (q2)), (14, .int .u32 (bits .or .u32 (q1) (q2))), (15, .pointer (some ⟨g1, 4, none⟩)), (16, .int .i64 (rs2)), (17, .int .u32 (q3)), (18, .int .u32 (bits .or .u32 (bits .or .u32 (q1) (q2)) (q3))), (3, .int .u32 (bits .or .u32 (bits .or .u32 (q1) (q2)) (q3)))] ?hord_1 ?hin_1 ?hfin_1 ?hdo_1 ?_); (case hm_1 => rfl); (case hord_1 => kernel_rfl); (case hin_1 => kernel_rfl); (case hfin_1 => (simp only [Reg.puts, Act.put, List.setIfInBounds_toArray, List.set_cons_zero, List.set_cons_succ]; try rfl)); (case hdo_1 => ((repeat' (first | exact stay1_nil | refine stay1_cons ?_ ?_)); all_goals (first | exact stay1_load rfl rfl rfl pl_int rfl rfl | exact stay1_load rfl rfl rfl pl_bool rfl rfl | exact stay1_call rfl rfl (fun X => by go_simp) (fun X => Q1.out X) rfl | exact stay1_call rfl rfl (fun X => by go_simp) (fun X => Q2.out X) rfl | exact stay1_call rfl rfl (fun X => by go_simp) (fun X => Q3.out X) rfl | exact stay1_slot rfl rfl (fun X => by first | (go_simp; done) | (go_simp; rfl))))); intro w' st_; clear ST; have ST := Lib.hid st_; clear st_)
    | (go_at_call 46; (with_reducible refine (T4.out _).mono ?_); rintro e w' ⟨rfl, hb⟩; (try replace PB := Lib.hid (PB.out.below hb)); replace ST := Lib.hid (ST.out.call hb); clear hb)
    | ((with_reducible refine Step.gate_build (t := 42) rfl ?_); refine Step.freshSlice (cs := #[.int .i64 4, .int .i64 8]) (T := 3) (n := 2) (m := 2) rfl ?hr ?_; (case hr => first | (go_simp; done) | (go_simp; rfl)); intro g9 w1 b hg hb; have PB := Lib.hid (show Blk w1 g9 (Enc.ints ([4, 8] : List Int)) _ from b); replace ST := Lib.hid (ST.out.call hb); clear b hb hg)
    | (go_at_call 47; have ix_ := index_any (n := 2) PB.out (([4, 8] : List Int)) rfl rfl (by decide) sz; (with_reducible refine ix_.mono ?_); clear ix_; rintro e w' ⟨rfl, rfl⟩; clear PB; (try rw [hu]))
    | ((with_reducible refine Step.gate_box (t := 24) rfl ?_); refine Step.fresh (cs := #[.int .i64 15, .int .i64 fn, .int .i64 rd, .int .i64 rs1, .int .i64 rs2, .int .i64 imm, .int .i64 sz, .bool sg]) (T := 24) rfl ?hr ?_; (case hr => first | (go_simp; done) | (go_simp; rfl)); intro g1 w1 b hg hb; have ST := Lib.hid (S1.made b hg hb); clear b hg hb)
    | ((with_reducible refine Step.gate_store (t := 3) rfl ?_); refine Step.store ST.out.one rfl rfl rfl rfl rfl pl_int rfl rfl ?_; intro w3 nb m; replace ST := Lib.hid (ST.out.set1 nb m); clear nb m)
    | ((with_reducible refine Step.gate_store (t := 4) rfl ?_); refine Step.store ST.out.one rfl rfl rfl rfl rfl pl_bool rfl rfl ?_; intro w3 nb m; replace ST := Lib.hid (ST.out.set1 nb m); clear nb m)
    | ((with_reducible refine Step.gate_store (t := 24) rfl ?_); refine Step.storeAll ST.out.one rfl rfl rfl rfl rfl size_inst rfl rfl ?_; intro w3 nb m; replace ST := Lib.hid (ST.out.set1 nb m); clear nb m)
    | ((with_reducible refine Step.gate_load (t := 3) rfl ?_); refine Step.load ST.out.one rfl rfl rfl pl_int rfl ?_)
    | ((with_reducible refine Step.gate_load (t := 4) rfl ?_); refine Step.load ST.out.one rfl rfl rfl pl_bool rfl ?_)
    | ((with_reducible refine Step.gate_load (t := 24) rfl ?_); refine Step.loadAll ST.out.one rfl rfl rfl Try.underlying24 rfl size_inst ?_))
  go_ret
  exact ⟨rfl, ST.out.below⟩

set_option maxHeartbeats 2000000 in
theorem encode_16 (fn rd rs1 rs2 imm sz : Int) (sg : Bool) (w : World) : Calls Try.prog 28 #[.agg #[.int .i64 16, .int .i64 fn, .int .i64 rd, .int .i64 rs1, .int .i64 rs2, .int .i64 imm, .int .i64 sz, .bool sg]] w fun e w' => e = .returned (.int .u32 (bor (bor (402653231) (regW rd rs1 rs2)) (pt (ix at2 sz + 2) 3 12))) ∧ Below w.heap.size w w' := by
  have Q1 := Lib.hid (fun w => calls_same (show Calls Try.prog 46 #[.int .i64 (rd), .int .i64 11, .int .i64 7] w fun e w' => e = .returned (.int .u32 (pt (rd) 5 7)) ∧ w = w' from put_any (rd) 11 7 11 7 rfl rfl (by decide) (by decide) w))
  have Q2 := Lib.hid (fun w => calls_same (show Calls Try.prog 46 #[.int .i64 (rs1), .int .i64 19, .int .i64 15] w fun e w' => e = .returned (.int .u32 (pt (rs1) 5 15)) ∧ w = w' from put_any (rs1) 19 15 19 15 rfl rfl (by decide) (by decide) w))
  have Q3 := Lib.hid (fun w => calls_same (show Calls Try.prog 46 #[.int .i64 (rs2), .int .i64 24, .int .i64 20] w fun e w' => e = .returned (.int .u32 (pt (rs2) 5 20)) ∧ w = w' from put_any (rs2) 24 20 24 20 rfl rfl (by decide) (by decide) w))
  have T4 := Lib.hid (fun w => calls_same (show Calls Try.prog 46 #[.int .i64 (ix at2 sz + 2), .int .i64 14, .int .i64 12] w fun e w' => e = .returned (.int .u32 (pt (ix at2 sz + 2) 3 12)) ∧ w = w' from put_any (ix at2 sz + 2) 14 12 14 12 rfl rfl (by decide) (by decide) w))
  have hu : ix ([4, 8] : List Int) sz = ix at2 sz := rfl
  have hb := ix_bd at2 sz
  have hb2 : (at2.length : Int) = 2 := rfl
  rw [hb2] at hb
  clear hb2
  generalize pt (ix at2 sz + 2) 3 12 = p4 at *
  generalize ix at2 sz = u at *
  (try unfold regW)
  generalize pt (rd) 5 7 = q1 at *
  generalize pt (rs1) 5 15 = q2 at *
  generalize pt (rs2) 5 20 = q3 at *
  go_enter Try.func28, Try.ntmps28
  go_wp2_with (first
    | ((with_reducible refine one_region (id := 1) (fin := ?fin_1) ST.out ?hm_1 [(8, .pointer (some ⟨g1, 2, none⟩)), (9, .int .i64 (rd)), (10, .int .u32 (q1)), (11, .pointer (some ⟨g1, 3, none⟩)), (12, .int .i64 (rs1)), (13, .int .u32 (q2)), (14, .int .u32 (bits .or .u32 (q1) (q2))), (15, .pointer (some ⟨g1, 4, none⟩)), (16, .int .i64 (rs2)), (17, .int .u32 (q3)), (18, .int .u32 (bits .or .u32 (bits .or .u32 (q1) (q2)) (q3))), (3, .int .u32 (bits .or .u32 (bits .or .u32 (q1) (q2)) (q3)))] ?hord_1 ?hin_1 ?hfin_1 ?hdo_1 ?_); (case hm_1 => rfl); (case hord_1 => kernel_rfl); (case hin_1 => kernel_rfl); (case hfin_1 => (simp only [Reg.puts, Act.put, List.setIfInBounds_toArray, List.set_cons_zero, List.set_cons_succ]; try rfl)); (case hdo_1 => ((repeat' (first | exact stay1_nil | refine stay1_cons ?_ ?_)); all_goals (first | exact stay1_load rfl rfl rfl pl_int rfl rfl | exact stay1_load rfl rfl rfl pl_bool rfl rfl | exact stay1_call rfl rfl (fun X => by go_simp) (fun X => Q1.out X) rfl | exact stay1_call rfl rfl (fun X => by go_simp) (fun X => Q2.out X) rfl | exact stay1_call rfl rfl (fun X => by go_simp) (fun X => Q3.out X) rfl | exact stay1_slot rfl rfl (fun X => by first | (go_simp; done) | (go_simp; rfl))))); intro w' st_; clear ST; have ST := Lib.hid st_; clear st_)
    | (go_at_call 46; (with_reducible refine (T4.out _).mono ?_); rintro e w' ⟨rfl, hb⟩; (try replace PB := Lib.hid (PB.out.below hb)); replace ST := Lib.hid (ST.out.call hb); clear hb)
    | ((with_reducible refine Step.gate_build (t := 42) rfl ?_); refine Step.freshSlice (cs := #[.int .i64 4, .int .i64 8]) (T := 3) (n := 2) (m := 2) rfl ?hr ?_; (case hr => first | (go_simp; done) | (go_simp; rfl)); intro g9 w1 b hg hb; have PB := Lib.hid (show Blk w1 g9 (Enc.ints ([4, 8] : List Int)) _ from b); replace ST := Lib.hid (ST.out.call hb); clear b hb hg)
    | (go_at_call 47; have ix_ := index_any (n := 2) PB.out (([4, 8] : List Int)) rfl rfl (by decide) sz; (with_reducible refine ix_.mono ?_); clear ix_; rintro e w' ⟨rfl, rfl⟩; clear PB; (try rw [hu]))
    | ((with_reducible refine Step.gate_box (t := 24) rfl ?_); refine Step.fresh (cs := #[.int .i64 16, .int .i64 fn, .int .i64 rd, .int .i64 rs1, .int .i64 rs2, .int .i64 imm, .int .i64 sz, .bool sg]) (T := 24) rfl ?hr ?_; (case hr => first | (go_simp; done) | (go_simp; rfl)); intro g1 w1 b hg hb; have ST := Lib.hid (S1.made b hg hb); clear b hg hb)
    | ((with_reducible refine Step.gate_store (t := 3) rfl ?_); refine Step.store ST.out.one rfl rfl rfl rfl rfl pl_int rfl rfl ?_; intro w3 nb m; replace ST := Lib.hid (ST.out.set1 nb m); clear nb m)
    | ((with_reducible refine Step.gate_store (t := 4) rfl ?_); refine Step.store ST.out.one rfl rfl rfl rfl rfl pl_bool rfl rfl ?_; intro w3 nb m; replace ST := Lib.hid (ST.out.set1 nb m); clear nb m)
    | ((with_reducible refine Step.gate_store (t := 24) rfl ?_); refine Step.storeAll ST.out.one rfl rfl rfl rfl rfl size_inst rfl rfl ?_; intro w3 nb m; replace ST := Lib.hid (ST.out.set1 nb m); clear nb m)
    | ((with_reducible refine Step.gate_load (t := 3) rfl ?_); refine Step.load ST.out.one rfl rfl rfl pl_int rfl ?_)
    | ((with_reducible refine Step.gate_load (t := 4) rfl ?_); refine Step.load ST.out.one rfl rfl rfl pl_bool rfl ?_)
    | ((with_reducible refine Step.gate_load (t := 24) rfl ?_); refine Step.loadAll ST.out.one rfl rfl rfl Try.underlying24 rfl size_inst ?_))
  go_ret
  exact ⟨rfl, ST.out.below⟩

set_option maxHeartbeats 2000000 in
theorem encode_17 (fn rd rs1 rs2 imm sz : Int) (sg : Bool) (w : World) : Calls Try.prog 28 #[.agg #[.int .i64 17, .int .i64 fn, .int .i64 rd, .int .i64 rs1, .int .i64 rs2, .int .i64 imm, .int .i64 sz, .bool sg]] w fun e w' => e = .returned (.int .u32 (bor (bor (bor (47) (regW rd rs1 rs2)) (pt (ix at2 sz + 2) 3 12)) (pt (ix amL fn) 5 27))) ∧ Below w.heap.size w w' := by
  have Q1 := Lib.hid (fun w => calls_same (show Calls Try.prog 46 #[.int .i64 (rd), .int .i64 11, .int .i64 7] w fun e w' => e = .returned (.int .u32 (pt (rd) 5 7)) ∧ w = w' from put_any (rd) 11 7 11 7 rfl rfl (by decide) (by decide) w))
  have Q2 := Lib.hid (fun w => calls_same (show Calls Try.prog 46 #[.int .i64 (rs1), .int .i64 19, .int .i64 15] w fun e w' => e = .returned (.int .u32 (pt (rs1) 5 15)) ∧ w = w' from put_any (rs1) 19 15 19 15 rfl rfl (by decide) (by decide) w))
  have Q3 := Lib.hid (fun w => calls_same (show Calls Try.prog 46 #[.int .i64 (rs2), .int .i64 24, .int .i64 20] w fun e w' => e = .returned (.int .u32 (pt (rs2) 5 20)) ∧ w = w' from put_any (rs2) 24 20 24 20 rfl rfl (by decide) (by decide) w))
  have T4 := Lib.hid (fun w => calls_same (show Calls Try.prog 46 #[.int .i64 (ix at2 sz + 2), .int .i64 14, .int .i64 12] w fun e w' => e = .returned (.int .u32 (pt (ix at2 sz + 2) 3 12)) ∧ w = w' from put_any (ix at2 sz + 2) 14 12 14 12 rfl rfl (by decide) (by decide) w))
  have T5 := Lib.hid (fun w => calls_same (show Calls Try.prog 46 #[.int .i64 (ix amL fn), .int .i64 31, .int .i64 27] w fun e w' => e = .returned (.int .u32 (pt (ix amL fn) 5 27)) ∧ w = w' from put_any (ix amL fn) 31 27 31 27 rfl rfl (by decide) (by decide) w))
  have hu : ix ([4, 8] : List Int) sz = ix at2 sz := rfl
  have hb := ix_bd at2 sz
  have hb2 : (at2.length : Int) = 2 := rfl
  rw [hb2] at hb
  clear hb2
  have hv : ix ([2, 1, 0, 0, 3, 0, 0, 0, 5, 0, 0, 0, 4, 0, 0, 0, 6, 0, 0, 0, 7, 0, 0, 0, 8, 0, 0, 0, 9] : List Int) fn = ix amL fn := rfl
  generalize pt (ix amL fn) 5 27 = p5 at *
  generalize ix amL fn = v at *
  generalize pt (ix at2 sz + 2) 3 12 = p4 at *
  generalize ix at2 sz = u at *
  (try unfold regW)
  generalize pt (rd) 5 7 = q1 at *
  generalize pt (rs1) 5 15 = q2 at *
  generalize pt (rs2) 5 20 = q3 at *
  go_enter Try.func28, Try.ntmps28
  go_wp2_with (first
    | ((with_reducible refine one_region (id := 1) (fin := ?fin_1) ST.out ?hm_1 [(8, .pointer (some ⟨g1, 2, none⟩)), (9, .int .i64 (rd)), (10, .int .u32 (q1)), (11, .pointer (some ⟨g1, 3, none⟩)), (12, .int .i64 (rs1)), (13, .int .u32 (q2)), (14, .int .u32 (bits .or .u32 (q1) (q2))), (15, .pointer (some ⟨g1, 4, none⟩)), (16, .int .i64 (rs2)), (17, .int .u32 (q3)), (18, .int .u32 (bits .or .u32 (bits .or .u32 (q1) (q2)) (q3))), (3, .int .u32 (bits .or .u32 (bits .or .u32 (q1) (q2)) (q3)))] ?hord_1 ?hin_1 ?hfin_1 ?hdo_1 ?_); (case hm_1 => rfl); (case hord_1 => kernel_rfl); (case hin_1 => kernel_rfl); (case hfin_1 => (simp only [Reg.puts, Act.put, List.setIfInBounds_toArray, List.set_cons_zero, List.set_cons_succ]; try rfl)); (case hdo_1 => ((repeat' (first | exact stay1_nil | refine stay1_cons ?_ ?_)); all_goals (first | exact stay1_load rfl rfl rfl pl_int rfl rfl | exact stay1_load rfl rfl rfl pl_bool rfl rfl | exact stay1_call rfl rfl (fun X => by go_simp) (fun X => Q1.out X) rfl | exact stay1_call rfl rfl (fun X => by go_simp) (fun X => Q2.out X) rfl | exact stay1_call rfl rfl (fun X => by go_simp) (fun X => Q3.out X) rfl | exact stay1_slot rfl rfl (fun X => by first | (go_simp; done) | (go_simp; rfl))))); intro w' st_; clear ST; have ST := Lib.hid st_; clear st_)
    | (go_at_call 46; (with_reducible refine (T4.out _).mono ?_); rintro e w' ⟨rfl, hb⟩; (try replace PB := Lib.hid (PB.out.below hb)); replace ST := Lib.hid (ST.out.call hb); clear hb)
    | (go_at_call 46; (with_reducible refine (T5.out _).mono ?_); rintro e w' ⟨rfl, hb⟩; (try replace PB := Lib.hid (PB.out.below hb)); replace ST := Lib.hid (ST.out.call hb); clear hb)
    | ((with_reducible refine Step.gate_build (t := 42) rfl ?_); refine Step.freshSlice (cs := #[.int .i64 4, .int .i64 8]) (T := 3) (n := 2) (m := 2) rfl ?hr ?_; (case hr => first | (go_simp; done) | (go_simp; rfl)); intro g9 w1 b hg hb; have PB := Lib.hid (show Blk w1 g9 (Enc.ints ([4, 8] : List Int)) _ from b); replace ST := Lib.hid (ST.out.call hb); clear b hb hg)
    | ((with_reducible refine Step.gate_build (t := 42) rfl ?_); refine Step.freshSlice (cs := #[.int .i64 2, .int .i64 1, .int .i64 0, .int .i64 0, .int .i64 3, .int .i64 0, .int .i64 0, .int .i64 0, .int .i64 5, .int .i64 0, .int .i64 0, .int .i64 0, .int .i64 4, .int .i64 0, .int .i64 0, .int .i64 0, .int .i64 6, .int .i64 0, .int .i64 0, .int .i64 0, .int .i64 7, .int .i64 0, .int .i64 0, .int .i64 0, .int .i64 8, .int .i64 0, .int .i64 0, .int .i64 0, .int .i64 9]) (T := 3) (n := 29) (m := 29) rfl ?hr ?_; (case hr => first | (go_simp; done) | (go_simp; rfl)); intro g9 w1 b hg hb; have PB := Lib.hid (show Blk w1 g9 (Enc.ints ([2, 1, 0, 0, 3, 0, 0, 0, 5, 0, 0, 0, 4, 0, 0, 0, 6, 0, 0, 0, 7, 0, 0, 0, 8, 0, 0, 0, 9] : List Int)) _ from b); replace ST := Lib.hid (ST.out.call hb); clear b hb hg)
    | (go_at_call 47; have ix_ := index_any (n := 2) PB.out (([4, 8] : List Int)) rfl rfl (by decide) sz; (with_reducible refine ix_.mono ?_); clear ix_; rintro e w' ⟨rfl, rfl⟩; clear PB; (try rw [hu]))
    | (go_at_call 47; have ix_ := index_any (n := 29) PB.out (([2, 1, 0, 0, 3, 0, 0, 0, 5, 0, 0, 0, 4, 0, 0, 0, 6, 0, 0, 0, 7, 0, 0, 0, 8, 0, 0, 0, 9] : List Int)) rfl rfl (by decide) fn; (with_reducible refine ix_.mono ?_); clear ix_; rintro e w' ⟨rfl, rfl⟩; clear PB; (try rw [hv]))
    | ((with_reducible refine Step.gate_box (t := 24) rfl ?_); refine Step.fresh (cs := #[.int .i64 17, .int .i64 fn, .int .i64 rd, .int .i64 rs1, .int .i64 rs2, .int .i64 imm, .int .i64 sz, .bool sg]) (T := 24) rfl ?hr ?_; (case hr => first | (go_simp; done) | (go_simp; rfl)); intro g1 w1 b hg hb; have ST := Lib.hid (S1.made b hg hb); clear b hg hb)
    | ((with_reducible refine Step.gate_store (t := 3) rfl ?_); refine Step.store ST.out.one rfl rfl rfl rfl rfl pl_int rfl rfl ?_; intro w3 nb m; replace ST := Lib.hid (ST.out.set1 nb m); clear nb m)
    | ((with_reducible refine Step.gate_store (t := 4) rfl ?_); refine Step.store ST.out.one rfl rfl rfl rfl rfl pl_bool rfl rfl ?_; intro w3 nb m; replace ST := Lib.hid (ST.out.set1 nb m); clear nb m)
    | ((with_reducible refine Step.gate_store (t := 24) rfl ?_); refine Step.storeAll ST.out.one rfl rfl rfl rfl rfl size_inst rfl rfl ?_; intro w3 nb m; replace ST := Lib.hid (ST.out.set1 nb m); clear nb m)
    | ((with_reducible refine Step.gate_load (t := 3) rfl ?_); refine Step.load ST.out.one rfl rfl rfl pl_int rfl ?_)
    | ((with_reducible refine Step.gate_load (t := 4) rfl ?_); refine Step.load ST.out.one rfl rfl rfl pl_bool rfl ?_)
    | ((with_reducible refine Step.gate_load (t := 24) rfl ?_); refine Step.loadAll ST.out.one rfl rfl rfl Try.underlying24 rfl size_inst ?_))
  go_ret
  exact ⟨rfl, ST.out.below⟩

set_option maxHeartbeats 2000000 in
theorem encode_none (fn rd rs1 rs2 imm sz : Int) (sg : Bool) (k : Int) (n1 : k ≠ 1) (n2 : k ≠ 2) (n3 : k ≠ 3) (n4 : k ≠ 4) (n5 : k ≠ 5) (n6 : k ≠ 6) (n7 : k ≠ 7) (n8 : k ≠ 8) (n9 : k ≠ 9) (n10 : k ≠ 10) (n11 : k ≠ 11) (n12 : k ≠ 12) (n13 : k ≠ 13) (n14 : k ≠ 14) (n15 : k ≠ 15) (n16 : k ≠ 16) (n17 : k ≠ 17) (n18 : k ≠ 18) (n19 : k ≠ 19) (n20 : k ≠ 20) (w : World) : Calls Try.prog 28 #[.agg #[.int .i64 k, .int .i64 fn, .int .i64 rd, .int .i64 rs1, .int .i64 rs2, .int .i64 imm, .int .i64 sz, .bool sg]] w fun e w' => e = .returned (.int .u32 (0)) ∧ Below w.heap.size w w' := by
  have Q1 := Lib.hid (fun w => calls_same (show Calls Try.prog 46 #[.int .i64 (rd), .int .i64 11, .int .i64 7] w fun e w' => e = .returned (.int .u32 (pt (rd) 5 7)) ∧ w = w' from put_any (rd) 11 7 11 7 rfl rfl (by decide) (by decide) w))
  have Q2 := Lib.hid (fun w => calls_same (show Calls Try.prog 46 #[.int .i64 (rs1), .int .i64 19, .int .i64 15] w fun e w' => e = .returned (.int .u32 (pt (rs1) 5 15)) ∧ w = w' from put_any (rs1) 19 15 19 15 rfl rfl (by decide) (by decide) w))
  have Q3 := Lib.hid (fun w => calls_same (show Calls Try.prog 46 #[.int .i64 (rs2), .int .i64 24, .int .i64 20] w fun e w' => e = .returned (.int .u32 (pt (rs2) 5 20)) ∧ w = w' from put_any (rs2) 24 20 24 20 rfl rfl (by decide) (by decide) w))
  have T4 := Lib.hid (fun w => calls_same (show Calls Try.prog 46 #[.int .i64 (ix at2 sz + 2), .int .i64 14, .int .i64 12] w fun e w' => e = .returned (.int .u32 (pt (ix at2 sz + 2) 3 12)) ∧ w = w' from put_any (ix at2 sz + 2) 14 12 14 12 rfl rfl (by decide) (by decide) w))
  have hu : ix ([4, 8] : List Int) sz = ix at2 sz := rfl
  have hb := ix_bd at2 sz
  have hb2 : (at2.length : Int) = 2 := rfl
  rw [hb2] at hb
  clear hb2
  generalize pt (ix at2 sz + 2) 3 12 = p4 at *
  generalize ix at2 sz = u at *
  (try unfold regW)
  generalize pt (rd) 5 7 = q1 at *
  generalize pt (rs1) 5 15 = q2 at *
  generalize pt (rs2) 5 20 = q3 at *
  go_enter Try.func28, Try.ntmps28
  go_wp2_with (first
    | ((with_reducible refine one_region (id := 1) (fin := ?fin_1) ST.out ?hm_1 [(8, .pointer (some ⟨g1, 2, none⟩)), (9, .int .i64 (rd)), (10, .int .u32 (q1)), (11, .pointer (some ⟨g1, 3, none⟩)), (12, .int .i64 (rs1)), (13, .int .u32 (q2)), (14, .int .u32 (bits .or .u32 (q1) (q2))), (15, .pointer (some ⟨g1, 4, none⟩)), (16, .int .i64 (rs2)), (17, .int .u32 (q3)), (18, .int .u32 (bits .or .u32 (bits .or .u32 (q1) (q2)) (q3))), (3, .int .u32 (bits .or .u32 (bits .or .u32 (q1) (q2)) (q3)))] ?hord_1 ?hin_1 ?hfin_1 ?hdo_1 ?_); (case hm_1 => rfl); (case hord_1 => kernel_rfl); (case hin_1 => kernel_rfl); (case hfin_1 => (simp only [Reg.puts, Act.put, List.setIfInBounds_toArray, List.set_cons_zero, List.set_cons_succ]; try rfl)); (case hdo_1 => ((repeat' (first | exact stay1_nil | refine stay1_cons ?_ ?_)); all_goals (first | exact stay1_load rfl rfl rfl pl_int rfl rfl | exact stay1_load rfl rfl rfl pl_bool rfl rfl | exact stay1_call rfl rfl (fun X => by go_simp) (fun X => Q1.out X) rfl | exact stay1_call rfl rfl (fun X => by go_simp) (fun X => Q2.out X) rfl | exact stay1_call rfl rfl (fun X => by go_simp) (fun X => Q3.out X) rfl | exact stay1_slot rfl rfl (fun X => by first | (go_simp; done) | (go_simp; rfl))))); intro w' st_; clear ST; have ST := Lib.hid st_; clear st_)
    | (go_at_call 46; (with_reducible refine (T4.out _).mono ?_); rintro e w' ⟨rfl, hb⟩; (try replace PB := Lib.hid (PB.out.below hb)); replace ST := Lib.hid (ST.out.call hb); clear hb)
    | ((with_reducible refine Step.gate_build (t := 42) rfl ?_); refine Step.freshSlice (cs := #[.int .i64 4, .int .i64 8]) (T := 3) (n := 2) (m := 2) rfl ?hr ?_; (case hr => first | (go_simp; done) | (go_simp; rfl)); intro g9 w1 b hg hb; have PB := Lib.hid (show Blk w1 g9 (Enc.ints ([4, 8] : List Int)) _ from b); replace ST := Lib.hid (ST.out.call hb); clear b hb hg)
    | (go_at_call 47; have ix_ := index_any (n := 2) PB.out (([4, 8] : List Int)) rfl rfl (by decide) sz; (with_reducible refine ix_.mono ?_); clear ix_; rintro e w' ⟨rfl, rfl⟩; clear PB; (try rw [hu]))
    | ((with_reducible refine Step.gate_box (t := 24) rfl ?_); refine Step.fresh (cs := #[.int .i64 k, .int .i64 fn, .int .i64 rd, .int .i64 rs1, .int .i64 rs2, .int .i64 imm, .int .i64 sz, .bool sg]) (T := 24) rfl ?hr ?_; (case hr => first | (go_simp; done) | (go_simp; rfl)); intro g1 w1 b hg hb; have ST := Lib.hid (S1.made b hg hb); clear b hg hb)
    | ((with_reducible refine Step.gate_store (t := 3) rfl ?_); refine Step.store ST.out.one rfl rfl rfl rfl rfl pl_int rfl rfl ?_; intro w3 nb m; replace ST := Lib.hid (ST.out.set1 nb m); clear nb m)
    | ((with_reducible refine Step.gate_store (t := 4) rfl ?_); refine Step.store ST.out.one rfl rfl rfl rfl rfl pl_bool rfl rfl ?_; intro w3 nb m; replace ST := Lib.hid (ST.out.set1 nb m); clear nb m)
    | ((with_reducible refine Step.gate_store (t := 24) rfl ?_); refine Step.storeAll ST.out.one rfl rfl rfl rfl rfl size_inst rfl rfl ?_; intro w3 nb m; replace ST := Lib.hid (ST.out.set1 nb m); clear nb m)
    | ((with_reducible refine Step.gate_load (t := 3) rfl ?_); refine Step.load ST.out.one rfl rfl rfl pl_int rfl ?_)
    | ((with_reducible refine Step.gate_load (t := 4) rfl ?_); refine Step.load ST.out.one rfl rfl rfl pl_bool rfl ?_)
    | ((with_reducible refine Step.gate_load (t := 24) rfl ?_); refine Step.loadAll ST.out.one rfl rfl rfl Try.underlying24 rfl size_inst ?_))
  go_ret
  exact ⟨rfl, ST.out.below⟩

end Go.Proofs.Ytdhmfjcijcdnjaa.Enc
