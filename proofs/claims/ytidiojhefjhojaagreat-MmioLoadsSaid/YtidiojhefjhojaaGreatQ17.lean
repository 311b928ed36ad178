/- Parts of the walks and laws for the claim: EncC, EncR, Fits, Sum, Key, Encode; no conditions beyond the theorems' own. -/
import Derived.Test.YtidiojhefjhojaaGreatQ5
import Derived.Test.YtidiojhefjhojaaGreatQ8
import Derived.Test.YtidiojhefjhojaaGreatQ12
import Derived.Test.YtidiojhefjhojaaGreatQ15
import Derived.Test.YtidiojhefjhojaaGreatQ16
section
namespace Go.Proofs.YtidiojhefjhojaaGreat.Enc
open Go Go.RowKit Go.Proofs.YtidiojhefjhojaaGreat.Step
set_option linter.unusedVariables false
set_option linter.unusedSimpArgs false
set_option maxRecDepth 100000
theorem stayL_nil {P : Program} {fin : Act} {I0 I1 : World → Prop} {kb : Nat} : ∀ o ∈ ([] : List Oper), StayL P fin I0 I1 kb o := fun _ h => nomatch h
theorem stayL_cons {P : Program} {fin : Act} {I0 I1 : World → Prop} {kb : Nat} {o : Oper} {l : List Oper} (h : StayL P fin I0 I1 kb o) (hl : ∀ o ∈ l, StayL P fin I0 I1 kb o) : ∀ o' ∈ o :: l, StayL P fin I0 I1 kb o' := fun o' ho => by
  rcases List.mem_cons.1 ho with rfl | h'
  · exact h
  · exact hl o' h'
set_option maxHeartbeats 2000000 in
theorem encode_7 (fn rd rs1 rs2 imm sz : Int) (sg : Bool) (w : World) : Calls Tryz.prog 59 #[.agg #[.int .i64 7, .int .i64 fn, .int .i64 rd, .int .i64 rs1, .int .i64 rs2, .int .i64 imm, .int .i64 sz, .bool sg]] w fun e w' => e = .returned (.int .u32 (bor (bor (bor (bor (35) (regW rd rs1 rs2)) (pt (ix ld4 sz) 3 12)) (pt (imm / 32) 7 25)) (pt (imm) 5 7))) ∧ Below w.heap.size w w' := by
  have Q1 := Lib.hid (fun w => calls_same (show Calls Tryz.prog 112 #[.int .i64 (rd), .int .i64 11, .int .i64 7] w fun e w' => e = .returned (.int .u32 (pt (rd) 5 7)) ∧ w = w' from put_any (rd) 11 7 11 7 rfl rfl (by decide) (by decide) w))
  have Q2 := Lib.hid (fun w => calls_same (show Calls Tryz.prog 112 #[.int .i64 (rs1), .int .i64 19, .int .i64 15] w fun e w' => e = .returned (.int .u32 (pt (rs1) 5 15)) ∧ w = w' from put_any (rs1) 19 15 19 15 rfl rfl (by decide) (by decide) w))
  have Q3 := Lib.hid (fun w => calls_same (show Calls Tryz.prog 112 #[.int .i64 (rs2), .int .i64 24, .int .i64 20] w fun e w' => e = .returned (.int .u32 (pt (rs2) 5 20)) ∧ w = w' from put_any (rs2) 24 20 24 20 rfl rfl (by decide) (by decide) w))
  have T4 := Lib.hid (fun w => calls_size (show Calls Tryz.prog 112 #[.int .i64 (ix ld4 sz), .int .i64 14, .int .i64 12] w fun e w' => e = .returned (.int .u32 (pt (ix ld4 sz) 3 12)) ∧ w = w' from put_any (ix ld4 sz) 14 12 14 12 rfl rfl (by decide) (by decide) w))
  have T0 := Lib.hid (fun w => calls_size (show Calls Tryz.prog 112 #[.int .i64 (imm / 32), .int .i64 31, .int .i64 25] w fun e w' => e = .returned (.int .u32 (pt (imm / 32) 7 25)) ∧ w = w' from put_any (imm / 32) 31 25 31 25 rfl rfl (by decide) (by decide) w))
  have T1 := Lib.hid (fun w => calls_size (show Calls Tryz.prog 112 #[.int .i64 (imm), .int .i64 11, .int .i64 7] w fun e w' => e = .returned (.int .u32 (pt (imm) 5 7)) ∧ w = w' from put_any (imm) 11 7 11 7 rfl rfl (by decide) (by decide) w))
  have HI := Lib.hid (fun (X : World) (g : Nat) (hX : Blk X g (Enc.ints ([1, 2, 4, 8] : List Int)) 3) => calls_same (show Calls Tryz.prog 113 #[.slice (some ⟨g, 0, none⟩) 4 4, .int .i64 sz] X fun e w' => e = .returned (.int .i64 (ix ld4 sz)) ∧ X = w' from index_any (n := 4) hX ([1, 2, 4, 8] : List Int) rfl rfl (by decide) sz))
  generalize pt (ix ld4 sz) 3 12 = p4 at *
  generalize pt (imm / 32) 7 25 = p0 at *
  generalize pt (imm) 5 7 = p1 at *
  generalize ix ld4 sz = u at *
  (try unfold regW)
  generalize pt (rd) 5 7 = q1 at *
  generalize pt (rs1) 5 15 = q2 at *
  generalize pt (rs2) 5 20 = q3 at *
  go_enter Tryz.func59, Tryz.ntmps59
  go_wp2_with (first
    | ((with_reducible refine one_region (id := 1) (fin := ?fin_1) ST.out ?hm_1 [(8, .pointer (some ⟨g1, 2, none⟩)), (9, .int .i64 (rd)), (10, .int .u32 (q1)), (11, .pointer (some ⟨g1, 3, none⟩)), (12, .int .i64 (rs1)), (13, .int .u32 (q2)), (14, .int .u32 (bits .or .u32 (q1) (q2))), (15, .pointer (some ⟨g1, 4, none⟩)), (16, .int .i64 (rs2)), (17, .int .u32 (q3)), (18, .int .u32 (bits .or .u32 (bits .or .u32 (q1) (q2)) (q3))), (3, .int .u32 (bits .or .u32 (bits .or .u32 (q1) (q2)) (q3)))] ?hord_1 ?hin_1 ?hfin_1 ?hdo_1 ?_); (case hm_1 => rfl); (case hord_1 => kernel_rfl); (case hin_1 => kernel_rfl); (case hfin_1 => (simp only [Reg.puts, Act.put, List.setIfInBounds_toArray, List.set_cons_zero, List.set_cons_succ]; try rfl)); (case hdo_1 => ((repeat' (first | exact stay1_nil | refine stay1_cons ?_ ?_)); all_goals (first | exact stay1_load rfl rfl rfl pl_int rfl rfl | exact stay1_call rfl rfl (fun X => by go_simp) (fun X => Q1.out X) rfl | exact stay1_call rfl rfl (fun X => by go_simp) (fun X => Q2.out X) rfl | exact stay1_call rfl rfl (fun X => by go_simp) (fun X => Q3.out X) rfl | exact stay1_slot rfl rfl (fun X => by first | (go_simp; done))))); intro w' st_; clear ST; have ST := Lib.hid st_; clear st_)
    | ((with_reducible refine laid_region (id := 20) (I0 := L0 w 74 g1 #[.int .i64 7, .int .i64 fn, .int .i64 rd, .int .i64 rs1, .int .i64 rs2, .int .i64 imm, .int .i64 sz, .bool sg] w'.heap.size) (I1 := L1 w 74 g1 #[.int .i64 7, .int .i64 fn, .int .i64 rd, .int .i64 rs1, .int .i64 rs2, .int .i64 imm, .int .i64 sz, .bool sg] w'.heap.size #[.int .i64 1, .int .i64 2, .int .i64 4, .int .i64 8] 3) (fin := ?fin_6) (ob := ?ok_6) (kb := 2) ?hS_6 ?hm_6 [(124, .int .u32 (bits .or .u32 (bits .or .u32 (q1) (q2)) (q3))), (125, .int .u32 (bits .or .u32 (35) (bits .or .u32 (bits .or .u32 (q1) (q2)) (q3)))), (126, .slice (some ⟨w'.heap.size, 0, none⟩) 4 4), (127, .pointer (some ⟨g1, 6, none⟩)), (128, .int .i64 (sz)), (129, .int .i64 (u)), (130, .int .u32 (p4)), (131, .int .u32 (bits .or .u32 (bits .or .u32 (35) (bits .or .u32 (bits .or .u32 (q1) (q2)) (q3))) (p4))), (132, .pointer (some ⟨g1, 5, none⟩)), (133, .int .i64 (imm)), (134, .int .i64 (imm / 32)), (135, .int .u32 (p0)), (136, .int .u32 (bits .or .u32 (bits .or .u32 (bits .or .u32 (35) (bits .or .u32 (bits .or .u32 (q1) (q2)) (q3))) (p4)) (p0))), (137, .pointer (some ⟨g1, 5, none⟩)), (138, .int .i64 (imm)), (139, .int .u32 (p1)), (140, .int .u32 (bits .or .u32 (bits .or .u32 (bits .or .u32 (bits .or .u32 (35) (bits .or .u32 (bits .or .u32 (q1) (q2)) (q3))) (p4)) (p0)) (p1))), (2, .int .u32 (bits .or .u32 (bits .or .u32 (bits .or .u32 (bits .or .u32 (35) (bits .or .u32 (bits .or .u32 (q1) (q2)) (q3))) (p4)) (p0)) (p1)))] ?hord_6 ?hin_6 ?hfin_6 ?hk_6 ?hgb_6 ?hb_6 ?hdo_6 ?_); (case hS_6 => exact ⟨ST.out.call (below_drawn ⟨1, rfl⟩), rfl⟩); (case hm_6 => rfl); (case hord_6 => kernel_rfl); (case hin_6 => kernel_rfl); (case hfin_6 => (simp only [Reg.puts, Act.put, List.setIfInBounds_toArray, List.set_cons_zero, List.set_cons_succ]; try rfl)); (case hk_6 => rfl); (case hgb_6 => rfl); (case hb_6 => exact lays_list (m := 4) (fun X => by first | (go_simp; done)) rfl); (case hdo_6 => (simp only [List.eraseIdx]; (repeat' (first | exact stayL_nil | refine stayL_cons ?_ ?_)); all_goals (first | exact stayL_load rfl rfl rfl pl_int rfl rfl | exact stayL_call rfl rfl (fun X => by go_simp) (fun X => T4.out X) rfl | exact stayL_call rfl rfl (fun X => by go_simp) (fun X => T0.out X) rfl | exact stayL_call rfl rfl (fun X => by go_simp) (fun X => T1.out X) rfl | exact stayL_read rfl (by kernel_rfl) rfl (fun X => by go_simp) (fun X hX => HI.out X _ hX) rfl | exact stayL_slot rfl rfl (fun X => by first | (go_simp; done))))); intro w' hI; obtain ⟨st_, _⟩ := hI; replace ST := Lib.hid st_; clear st_)
    | ((with_reducible refine Step.gate_box (t := 74) rfl ?_); refine Step.fresh (cs := #[.int .i64 7, .int .i64 fn, .int .i64 rd, .int .i64 rs1, .int .i64 rs2, .int .i64 imm, .int .i64 sz, .bool sg]) (T := 74) rfl ?hr ?_; (case hr => first | (go_simp; done)); intro g1 w1 b hg hb; have ST := Lib.hid (S1.made b hg hb); clear b hg hb)
    | ((with_reducible refine Step.gate_load (t := 3) rfl ?_); refine Step.load ST.out.one rfl rfl rfl pl_int rfl ?_))
  go_ret
  exact ⟨rfl, ST.out.below⟩
set_option maxHeartbeats 2000000 in
theorem encode_9 (fn rd rs1 rs2 imm sz : Int) (sg : Bool) (w : World) : Calls Tryz.prog 59 #[.agg #[.int .i64 9, .int .i64 fn, .int .i64 rd, .int .i64 rs1, .int .i64 rs2, .int .i64 imm, .int .i64 sz, .bool sg]] w fun e w' => e = .returned (.int .u32 (bor (encI fn imm) (regW rd rs1 rs2))) ∧ Below w.heap.size w w' := by
  have Q1 := Lib.hid (fun w => calls_same (show Calls Tryz.prog 112 #[.int .i64 (rd), .int .i64 11, .int .i64 7] w fun e w' => e = .returned (.int .u32 (pt (rd) 5 7)) ∧ w = w' from put_any (rd) 11 7 11 7 rfl rfl (by decide) (by decide) w))
  have Q2 := Lib.hid (fun w => calls_same (show Calls Tryz.prog 112 #[.int .i64 (rs1), .int .i64 19, .int .i64 15] w fun e w' => e = .returned (.int .u32 (pt (rs1) 5 15)) ∧ w = w' from put_any (rs1) 19 15 19 15 rfl rfl (by decide) (by decide) w))
  have Q3 := Lib.hid (fun w => calls_same (show Calls Tryz.prog 112 #[.int .i64 (rs2), .int .i64 24, .int .i64 20] w fun e w' => e = .returned (.int .u32 (pt (rs2) 5 20)) ∧ w = w' from put_any (rs2) 24 20 24 20 rfl rfl (by decide) (by decide) w))
  have T0 := Lib.hid (encI_any 9 fn rd rs1 rs2 imm sz sg)
  generalize encI fn imm = p0 at *
  (try unfold regW)
  generalize pt (rd) 5 7 = q1 at *
  generalize pt (rs1) 5 15 = q2 at *
  generalize pt (rs2) 5 20 = q3 at *
  go_enter Tryz.func59, Tryz.ntmps59
  go_wp2_with (first
    | ((with_reducible refine one_region (id := 1) (fin := ?fin_1) ST.out ?hm_1 [(8, .pointer (some ⟨g1, 2, none⟩)), (9, .int .i64 (rd)), (10, .int .u32 (q1)), (11, .pointer (some ⟨g1, 3, none⟩)), (12, .int .i64 (rs1)), (13, .int .u32 (q2)), (14, .int .u32 (bits .or .u32 (q1) (q2))), (15, .pointer (some ⟨g1, 4, none⟩)), (16, .int .i64 (rs2)), (17, .int .u32 (q3)), (18, .int .u32 (bits .or .u32 (bits .or .u32 (q1) (q2)) (q3))), (3, .int .u32 (bits .or .u32 (bits .or .u32 (q1) (q2)) (q3)))] ?hord_1 ?hin_1 ?hfin_1 ?hdo_1 ?_); (case hm_1 => rfl); (case hord_1 => kernel_rfl); (case hin_1 => kernel_rfl); (case hfin_1 => (simp only [Reg.puts, Act.put, List.setIfInBounds_toArray, List.set_cons_zero, List.set_cons_succ]; try rfl)); (case hdo_1 => ((repeat' (first | exact stay1_nil | refine stay1_cons ?_ ?_)); all_goals (first | exact stay1_load rfl rfl rfl pl_int rfl rfl | exact stay1_call rfl rfl (fun X => by go_simp) (fun X => Q1.out X) rfl | exact stay1_call rfl rfl (fun X => by go_simp) (fun X => Q2.out X) rfl | exact stay1_call rfl rfl (fun X => by go_simp) (fun X => Q3.out X) rfl | exact stay1_slot rfl rfl (fun X => by first | (go_simp; done))))); intro w' st_; clear ST; have ST := Lib.hid st_; clear st_)
    | (go_at_call 114; (with_reducible refine (T0.out _).mono ?_); rintro e w' ⟨rfl, hb⟩; (try replace PB := Lib.hid (PB.out.below hb)); replace ST := Lib.hid (ST.out.call hb); clear hb)
    | ((with_reducible refine Step.gate_box (t := 74) rfl ?_); refine Step.fresh (cs := #[.int .i64 9, .int .i64 fn, .int .i64 rd, .int .i64 rs1, .int .i64 rs2, .int .i64 imm, .int .i64 sz, .bool sg]) (T := 74) rfl ?hr ?_; (case hr => first | (go_simp; done)); intro g1 w1 b hg hb; have ST := Lib.hid (S1.made b hg hb); clear b hg hb)
    | ((with_reducible refine Step.gate_load (t := 3) rfl ?_); refine Step.load ST.out.one rfl rfl rfl pl_int rfl ?_)
    | ((with_reducible refine Step.gate_load (t := 74) rfl ?_); refine Step.loadAll ST.out.one rfl rfl rfl Tryz.underlying74 rfl size_inst ?_))
  go_ret
  exact ⟨rfl, ST.out.below⟩
set_option maxHeartbeats 2000000 in
theorem encode_8 (fn rd rs1 rs2 imm sz : Int) (sg : Bool) (E : Int) (T0 : Hid (∀ w, Calls Tryz.prog 115 #[.agg #[.int .i64 8, .int .i64 fn, .int .i64 rd, .int .i64 rs1, .int .i64 rs2, .int .i64 imm, .int .i64 sz, .bool sg]] w fun e w' => e = .returned (.int .u32 (E)) ∧ Below w.heap.size w w')) (w : World) : Calls Tryz.prog 59 #[.agg #[.int .i64 8, .int .i64 fn, .int .i64 rd, .int .i64 rs1, .int .i64 rs2, .int .i64 imm, .int .i64 sz, .bool sg]] w fun e w' => e = .returned (.int .u32 (bor (E) (regW rd rs1 rs2))) ∧ Below w.heap.size w w' := by
  have Q1 := Lib.hid (fun w => calls_same (show Calls Tryz.prog 112 #[.int .i64 (rd), .int .i64 11, .int .i64 7] w fun e w' => e = .returned (.int .u32 (pt (rd) 5 7)) ∧ w = w' from put_any (rd) 11 7 11 7 rfl rfl (by decide) (by decide) w))
  have Q2 := Lib.hid (fun w => calls_same (show Calls Tryz.prog 112 #[.int .i64 (rs1), .int .i64 19, .int .i64 15] w fun e w' => e = .returned (.int .u32 (pt (rs1) 5 15)) ∧ w = w' from put_any (rs1) 19 15 19 15 rfl rfl (by decide) (by decide) w))
  have Q3 := Lib.hid (fun w => calls_same (show Calls Tryz.prog 112 #[.int .i64 (rs2), .int .i64 24, .int .i64 20] w fun e w' => e = .returned (.int .u32 (pt (rs2) 5 20)) ∧ w = w' from put_any (rs2) 24 20 24 20 rfl rfl (by decide) (by decide) w))
  (try unfold regW)
  generalize pt (rd) 5 7 = q1 at *
  generalize pt (rs1) 5 15 = q2 at *
  generalize pt (rs2) 5 20 = q3 at *
  go_enter Tryz.func59, Tryz.ntmps59
  go_wp2_with (first
    | ((with_reducible refine one_region (id := 1) (fin := ?fin_1) ST.out ?hm_1 [(8, .pointer (some ⟨g1, 2, none⟩)), (9, .int .i64 (rd)), (10, .int .u32 (q1)), (11, .pointer (some ⟨g1, 3, none⟩)), (12, .int .i64 (rs1)), (13, .int .u32 (q2)), (14, .int .u32 (bits .or .u32 (q1) (q2))), (15, .pointer (some ⟨g1, 4, none⟩)), (16, .int .i64 (rs2)), (17, .int .u32 (q3)), (18, .int .u32 (bits .or .u32 (bits .or .u32 (q1) (q2)) (q3))), (3, .int .u32 (bits .or .u32 (bits .or .u32 (q1) (q2)) (q3)))] ?hord_1 ?hin_1 ?hfin_1 ?hdo_1 ?_); (case hm_1 => rfl); (case hord_1 => kernel_rfl); (case hin_1 => kernel_rfl); (case hfin_1 => (simp only [Reg.puts, Act.put, List.setIfInBounds_toArray, List.set_cons_zero, List.set_cons_succ]; try rfl)); (case hdo_1 => ((repeat' (first | exact stay1_nil | refine stay1_cons ?_ ?_)); all_goals (first | exact stay1_load rfl rfl rfl pl_int rfl rfl | exact stay1_call rfl rfl (fun X => by go_simp) (fun X => Q1.out X) rfl | exact stay1_call rfl rfl (fun X => by go_simp) (fun X => Q2.out X) rfl | exact stay1_call rfl rfl (fun X => by go_simp) (fun X => Q3.out X) rfl | exact stay1_slot rfl rfl (fun X => by first | (go_simp; done))))); intro w' st_; clear ST; have ST := Lib.hid st_; clear st_)
    | (go_at_call 115; (with_reducible refine (T0.out _).mono ?_); rintro e w' ⟨rfl, hb⟩; (try replace PB := Lib.hid (PB.out.below hb)); replace ST := Lib.hid (ST.out.call hb); clear hb)
    | ((with_reducible refine Step.gate_box (t := 74) rfl ?_); refine Step.fresh (cs := #[.int .i64 8, .int .i64 fn, .int .i64 rd, .int .i64 rs1, .int .i64 rs2, .int .i64 imm, .int .i64 sz, .bool sg]) (T := 74) rfl ?hr ?_; (case hr => first | (go_simp; done)); intro g1 w1 b hg hb; have ST := Lib.hid (S1.made b hg hb); clear b hg hb)
    | ((with_reducible refine Step.gate_load (t := 3) rfl ?_); refine Step.load ST.out.one rfl rfl rfl pl_int rfl ?_)
    | ((with_reducible refine Step.gate_load (t := 74) rfl ?_); refine Step.loadAll ST.out.one rfl rfl rfl Tryz.underlying74 rfl size_inst ?_))
  go_ret
  exact ⟨rfl, ST.out.below⟩
set_option maxHeartbeats 2000000 in
theorem encode_12 (fn rd rs1 rs2 imm sz : Int) (sg : Bool) (w : World) : Calls Tryz.prog 59 #[.agg #[.int .i64 12, .int .i64 fn, .int .i64 rd, .int .i64 rs1, .int .i64 rs2, .int .i64 imm, .int .i64 sz, .bool sg]] w fun e w' => e = .returned (.int .u32 (1048691)) ∧ Below w.heap.size w w' := by
  have Q1 := Lib.hid (fun w => calls_same (show Calls Tryz.prog 112 #[.int .i64 (rd), .int .i64 11, .int .i64 7] w fun e w' => e = .returned (.int .u32 (pt (rd) 5 7)) ∧ w = w' from put_any (rd) 11 7 11 7 rfl rfl (by decide) (by decide) w))
  have Q2 := Lib.hid (fun w => calls_same (show Calls Tryz.prog 112 #[.int .i64 (rs1), .int .i64 19, .int .i64 15] w fun e w' => e = .returned (.int .u32 (pt (rs1) 5 15)) ∧ w = w' from put_any (rs1) 19 15 19 15 rfl rfl (by decide) (by decide) w))
  have Q3 := Lib.hid (fun w => calls_same (show Calls Tryz.prog 112 #[.int .i64 (rs2), .int .i64 24, .int .i64 20] w fun e w' => e = .returned (.int .u32 (pt (rs2) 5 20)) ∧ w = w' from put_any (rs2) 24 20 24 20 rfl rfl (by decide) (by decide) w))
  (try unfold regW)
  generalize pt (rd) 5 7 = q1 at *
  generalize pt (rs1) 5 15 = q2 at *
  generalize pt (rs2) 5 20 = q3 at *
  go_enter Tryz.func59, Tryz.ntmps59
  go_wp2_with (first
    | ((with_reducible refine one_region (id := 1) (fin := ?fin_1) ST.out ?hm_1 [(8, .pointer (some ⟨g1, 2, none⟩)), (9, .int .i64 (rd)), (10, .int .u32 (q1)), (11, .pointer (some ⟨g1, 3, none⟩)), (12, .int .i64 (rs1)), (13, .int .u32 (q2)), (14, .int .u32 (bits .or .u32 (q1) (q2))), (15, .pointer (some ⟨g1, 4, none⟩)), (16, .int .i64 (rs2)), (17, .int .u32 (q3)), (18, .int .u32 (bits .or .u32 (bits .or .u32 (q1) (q2)) (q3))), (3, .int .u32 (bits .or .u32 (bits .or .u32 (q1) (q2)) (q3)))] ?hord_1 ?hin_1 ?hfin_1 ?hdo_1 ?_); (case hm_1 => rfl); (case hord_1 => kernel_rfl); (case hin_1 => kernel_rfl); (case hfin_1 => (simp only [Reg.puts, Act.put, List.setIfInBounds_toArray, List.set_cons_zero, List.set_cons_succ]; try rfl)); (case hdo_1 => ((repeat' (first | exact stay1_nil | refine stay1_cons ?_ ?_)); all_goals (first | exact stay1_load rfl rfl rfl pl_int rfl rfl | exact stay1_call rfl rfl (fun X => by go_simp) (fun X => Q1.out X) rfl | exact stay1_call rfl rfl (fun X => by go_simp) (fun X => Q2.out X) rfl | exact stay1_call rfl rfl (fun X => by go_simp) (fun X => Q3.out X) rfl | exact stay1_slot rfl rfl (fun X => by first | (go_simp; done))))); intro w' st_; clear ST; have ST := Lib.hid st_; clear st_)
    | ((with_reducible refine Step.gate_box (t := 74) rfl ?_); refine Step.fresh (cs := #[.int .i64 12, .int .i64 fn, .int .i64 rd, .int .i64 rs1, .int .i64 rs2, .int .i64 imm, .int .i64 sz, .bool sg]) (T := 74) rfl ?hr ?_; (case hr => first | (go_simp; done)); intro g1 w1 b hg hb; have ST := Lib.hid (S1.made b hg hb); clear b hg hb)
    | ((with_reducible refine Step.gate_load (t := 3) rfl ?_); refine Step.load ST.out.one rfl rfl rfl pl_int rfl ?_))
  go_ret
  exact ⟨rfl, ST.out.below⟩
end Go.Proofs.YtidiojhefjhojaaGreat.Enc
end
section
namespace Go.Proofs.YtidiojhefjhojaaGreat.Enc
open Go Go.RowKit Go.Proofs.YtidiojhefjhojaaGreat.Step
set_option linter.unusedVariables false
set_option linter.unusedSimpArgs false
set_option maxRecDepth 100000
def topL : List Int := ([51, 1073741875, 33554483, 59, 1073741883, 33554491] : List Int)
def rgL : List Int := ([1, 3, 4, 5, 6, 7, 9, 10, 2, 0, 0, 0, 0, 8, 0, 0, 11, 12, 13, 14, 15, 16, 17, 18, 19, 21, 0, 0, 0, 22, 0, 0, 20, 0, 0, 0, 0, 23, 0, 0, 24, 0, 0, 0, 25, 26, 27, 28] : List Int)
def rwL : List Int := ([0, 51, 1073741875, 4147, 8243, 12339, 16435, 20531, 1073762355, 24627, 28723, 33554483, 33558579, 33562675, 33566771, 33570867, 33574963, 33579059, 33583155, 59, 1073741883, 4155, 20539, 1073762363, 33554491, 33570875, 33574971, 33579067, 33583163] : List Int)
/-- The word at a top and an f3. -/
def wAt (t f : Nat) : Int := bits .or .u32 (topL.getD t 0) (pt f 3 12)
theorem wAt_ok : ∀ t : Fin 6, ∀ f : Fin 8, (0 ≤ wAt t.val f.val ∧ wAt t.val f.val < 4294967296) ∧ fd (wAt t.val f.val) 6 0 = (if decide (t.val < 3) then 51 else 59) ∧ regF (decide (t.val < 3)) (fd (wAt t.val f.val) 31 25) (fd (wAt t.val f.val) 14 12) = rgL.getD (8 * t.val + f.val) 0 ∧ (rgL.getD (8 * t.val + f.val) 0 ≠ 0 → wAt t.val f.val = pk rwL (rgL.getD (8 * t.val + f.val) 0)) := by
  decide
theorem rg_all : ∀ j : Fin 28, ∃ n : Fin 48, rgL.getD n.val 0 = (j.val : Int) + 1 := by decide
theorem reg_at {t f : Nat} (ht : t < 6) (hf : f < 8) (w : World) : Calls Tryz.prog 126 #[.int .u32 (wAt t f)] w fun e w' => e = .returned (.int .i64 (rgL.getD (8 * t + f) 0)) ∧ Below w.heap.size w w' := by
  obtain ⟨h1, h2, h3, _⟩ := wAt_ok ⟨t, ht⟩ ⟨f, hf⟩
  have C := register_any (wAt t f) ⟨h1⟩ (decide (t < 3)) h2 w
  rw [h3] at C
  exact C
theorem rw_miss {fn : Int} (h : fn = 0 ∨ ∀ n, n < 48 → rgL.getD n 0 ≠ fn) : pk rwL fn = 0 := by
  unfold pk
  split
  · rfl
  · rename_i h0
    obtain ⟨m, rfl⟩ := Int.eq_ofNat_of_zero_le (show 0 ≤ fn by omega)
    rw [Int.toNat_natCast]
    by_cases h1 : m < 29
    · by_cases h2 : m = 0
      · subst h2; rfl
      · rcases h with h | h
        · omega
        · obtain ⟨n, hn⟩ := rg_all ⟨m - 1, by omega⟩
          exact absurd hn (by have := h n.val n.isLt; simp only []; omega)
    · simp [List.getD, List.getElem?_eq_none (show rwL.length ≤ m by show 29 ≤ m; omega)]
section
variable {P : Program} {ops : Array Oper} {fin : Act} {W : World} {o : Oper}
theorem calm_loadg {t : TypeId} {x : Operand} {g i : Nat} {cs : Array Value} {T : TypeId} {v : Value} (hB : Blk W g cs T) (hg : Region.wanted o (yielded ops fin.tmps) = true) (ho : o.op = .load t x) (hx : fin.eval x = .pointer (some ⟨g, i, none⟩)) (ht : plainT P t = true) (hv : cs[i]? = some v)
    (hp : fin.put o.dst v = fin) : Calm.Calm P ops fin W o :=
  Calm.calm_value_g hg (fun X hX => by
    have := run_load1 (P := P) ht (((hB.below hX).cell i).trans hv)
    simp [execOp, ho, hx, this, Result.andThen]) hp
theorem calm_slotg {t : Nat} (hg : Region.wanted o (yielded ops fin.tmps) = true) (hd : o.dst = some t) (h : ∀ X, (execOp fin.eval o).run P X = .ok (.value (fin.tmps.getD t undef)) X) : Calm.Calm P ops fin W o :=
  Calm.calm_value_g hg (fun X _ => h X) (by rw [hd]; exact put_self fin t)
theorem calm_callgg {f : FuncId} {args : Array Value} {v : Value} {cc : Call} (_ : o.op = .call cc) (hg : Region.wanted o (yielded ops fin.tmps) = true) (h : ∀ X, (execOp fin.eval o).run P X = .ok (.enter f args) X)
    (hc : ∀ X, Calls P f args X fun e X' => e = .returned v ∧ Below X.heap.size X X') (hp : fin.put o.dst v = fin) : Calm.Calm P ops fin W o := Calm.calm_call_g hg h (fun X _ => hc X) hp
end
def u32s (L : List Int) : Array Value := (L.map fun x => Value.int .u32 x).toArray
theorem u32s_at (L : List Int) (k : Nat) (h : k < L.length) : (u32s L)[k]? = some (.int .u32 (L.getD k 0)) := by
  simp [u32s, List.getElem?_map, List.getD, List.getElem?_eq_getElem h]
set_option maxHeartbeats 4000000 in
theorem encR_any (k : Int) (fn rd rs1 rs2 imm sz : Int) (sg : Bool) (w : World) : Calls Tryz.prog 115 #[.agg #[.int .i64 k, .int .i64 fn, .int .i64 rd, .int .i64 rs1, .int .i64 rs2, .int .i64 imm, .int .i64 sz, .bool sg]] w fun e w' => e = .returned (.int .u32 (pk rwL fn)) ∧ Below w.heap.size w w' := by
  go_enter Tryz.func115, Tryz.ntmps115
  go_wp2_with (first
    | ((with_reducible refine Step.gate_build (t := 190) rfl ?_); refine Step.freshSlice (cs := #[.int .u32 51, .int .u32 1073741875, .int .u32 33554483, .int .u32 59, .int .u32 1073741883, .int .u32 33554491]) (T := 40) (n := 6) (m := 6) rfl ?hr ?_; (case hr => first | (go_simp; done)); intro g9 w1 b hg hb; have PB := Lib.hid (show Blk w1 g9 (u32s topL) _ from b); replace ST := Lib.hid (ST.out.call hb); clear b hb hg)
    | ((with_reducible refine Step.gate_box (t := 74) rfl ?_); refine Step.fresh (cs := #[.int .i64 k, .int .i64 fn, .int .i64 rd, .int .i64 rs1, .int .i64 rs2, .int .i64 imm, .int .i64 sz, .bool sg]) (T := 74) rfl ?hr ?_; (case hr => first | (go_simp; done)); intro g1 w1 b hg hb; have ST := Lib.hid (S1.made b hg hb); clear b hg hb))
  go_loopw [9] (fun i w_ => ∃ t : Nat, t ≤ 6 ∧ i = .int .i64 t ∧ S1 w w_ 74 g1 #[.int .i64 k, .int .i64 fn, .int .i64 rd, .int .i64 rs1, .int .i64 rs2, .int .i64 imm, .int .i64 sz, .bool sg] ∧ Blk w_ g9 (u32s topL) 40 ∧ (fn = 0 ∨ ∀ n, n < 8 * t → rgL.getD n 0 ≠ fn)) (fun i _ => (6 - intOf i).toNat)
  case atStart => exact ⟨0, Nat.zero_le _, rfl, ST.out, PB.out, .inr fun n h => absurd h (by omega)⟩
  case round =>
    clear ST PB
    obtain ⟨t, hkt, rfl, hS, hP, hm⟩ := hrel
    have ST := Lib.hid hS
    have PB := Lib.hid hP
    have HM := Lib.hid hm
    clear hS hP hm
    by_cases hlt : t < 6
    · have hc := (PB.out.cell t).trans (u32s_at topL t hlt)
      obtain ⟨tv, htv⟩ : ∃ tv, topL.getD t 0 = tv := ⟨_, rfl⟩
      rw [htv] at hc
      have HTV := Lib.hid htv
      clear htv
      have hdt : decide ((t : Int) < 6) = true := decide_eq_true (by omega)
      go_wp2
      clear hc
      go_loopw [13] (fun i w_ => ∃ f : Nat, f ≤ 8 ∧ i = .int .i64 f ∧ S1 w w_ 74 g1 #[.int .i64 k, .int .i64 fn, .int .i64 rd, .int .i64 rs1, .int .i64 rs2, .int .i64 imm, .int .i64 sz, .bool sg] ∧ Blk w_ g9 (u32s topL) 40 ∧ (fn = 0 ∨ ∀ n, n < 8 * t + f → rgL.getD n 0 ≠ fn)) (fun i _ => (8 - intOf i).toNat)
      case atStart => exact ⟨0, Nat.zero_le _, rfl, ST.out, PB.out, HM.out⟩
      case round =>
        clear ST PB HM
        obtain ⟨f, hkf, rfl, hS, hP, hm⟩ := hrel
        have ST := Lib.hid hS
        have PB := Lib.hid hP
        have HM := Lib.hid hm
        clear hS hP hm
        by_cases hlf : f < 8
        · have TP := Lib.hid (fun w => calls_same (show Calls Tryz.prog 112 #[.int .i64 (f : Int), .int .i64 14, .int .i64 12] w fun e w' => e = .returned (.int .u32 (pt (f : Int) 3 12)) ∧ w = w' from put_any (f : Int) 14 12 14 12 rfl rfl (by decide) (by decide) w))
          have TR := Lib.hid (reg_at hlt hlf)
          have HW : bits .or .u32 tv (pt (f : Int) 3 12) = wAt t f := by unfold wAt; rw [HTV.out]
          have HH := Lib.hid (wAt_ok ⟨t, hlt⟩ ⟨f, hlf⟩).2.2.2
          simp only [] at HH
          generalize pt (f : Int) 3 12 = pv at *
          obtain ⟨wv, hwv⟩ : ∃ wv, wAt t f = wv := ⟨_, rfl⟩
          obtain ⟨gv, hgv⟩ : ∃ gv, rgL.getD (8 * t + f) 0 = gv := ⟨_, rfl⟩
          rw [hwv] at HW TR HH
          rw [hgv] at TR HH
          have HG := Lib.hid hgv
          clear hwv hgv
          by_cases h0 : fn = 0
          · have c0 : (fn != 0) = false := by rw [h0]; rfl
            clear h0
            go_wp2_with (first
              | (go_at_call 112; (with_reducible refine (TP.out _).mono ?_); rintro e w' ⟨rfl, hb⟩; replace PB := Lib.hid (PB.out.below hb); replace ST := Lib.hid (ST.out.call hb); clear hb)
              | ((with_reducible refine Calm.region (id := 8) (fin := ?fin_9) ?hm_9 10 [(20, .pointer (some ⟨g1, 1, none⟩)), (21, .int .i64 (fn)), (22, .bool false), (23, .bool false), (24, undef), (25, undef), (26, undef), (27, undef), (28, undef), (29, .bool false)] ?hp_9 ?hin_9 ?hfin_9 ?hcalm_9 ?_); (case hm_9 => rfl); (case hp_9 => kernel_rfl); (case hin_9 => kernel_rfl); (case hfin_9 => (simp only [Reg.puts, Act.put, List.setIfInBounds_toArray, List.set_cons_zero, List.set_cons_succ]; try rfl)); (case hcalm_9 => (simp only [List.take]; (repeat' (first | exact Calm.calm_nil | refine Calm.calm_cons ?_ ?_)); all_goals (first | exact Calm.calm_not rfl rfl | exact calm_loadg ST.out.one rfl rfl rfl pl_int rfl rfl | exact calm_slotg rfl rfl (fun X => by first | (go_simp; done))))); intro w' hb; replace PB := Lib.hid (PB.out.below hb); replace ST := Lib.hid (ST.out.call hb); clear hb; simp only [List.drop]))
            refine ⟨⟨f + 1, by omega, by go_num, ST.out, PB.out, by first | exact .inl (by simpa using c0)⟩, by simp [intOf]; omega⟩
          · have c0 : (fn != 0) = true := bne_iff_ne.2 h0
            by_cases hit : gv = fn
            · have c1 : (gv == fn) = true := beq_iff_eq.2 hit
              have HR := Lib.hid (show wv = pk rwL fn from by have := HH.out (by rw [hit]; exact h0); rw [this, hit])
              clear h0 hit HM HH
              go_wp2_with (first
                | (go_at_call 112; (with_reducible refine (TP.out _).mono ?_); rintro e w' ⟨rfl, hb⟩; replace PB := Lib.hid (PB.out.below hb); replace ST := Lib.hid (ST.out.call hb); clear hb)
                | ((with_reducible refine Calm.region (id := 8) (fin := ?fin_10) ?hm_10 10 [(20, .pointer (some ⟨g1, 1, none⟩)), (21, .int .i64 (fn)), (22, .bool true), (23, .bool true), (24, .int .u32 (wv)), (25, .int .i64 (gv)), (26, .pointer (some ⟨g1, 1, none⟩)), (27, .int .i64 (fn)), (28, .bool (gv == fn)), (29, .bool (gv == fn))] ?hp_10 ?hin_10 ?hfin_10 ?hcalm_10 ?_); (case hm_10 => rfl); (case hp_10 => kernel_rfl); (case hin_10 => kernel_rfl); (case hfin_10 => (simp only [Reg.puts, Act.put, List.setIfInBounds_toArray, List.set_cons_zero, List.set_cons_succ]; try rfl)); (case hcalm_10 => (simp only [List.take]; (repeat' (first | exact Calm.calm_nil | refine Calm.calm_cons ?_ ?_)); all_goals (first | exact calm_loadg ST.out.one rfl rfl rfl pl_int rfl rfl | exact calm_callgg rfl rfl (fun X => by go_simp) (fun X => TR.out X) rfl | exact calm_slotg rfl rfl (fun X => by first | (go_simp; done))))); intro w' hb; replace PB := Lib.hid (PB.out.below hb); replace ST := Lib.hid (ST.out.call hb); clear hb; simp only [List.drop]))
              go_ret
              exact ⟨by rw [← HR.out]; rfl, ST.out.below⟩
            · have c1 : (gv == fn) = false := beq_eq_false_iff_ne.2 hit
              have HN := Lib.hid hit
              have H0 := Lib.hid h0
              clear h0 hit HH
              go_wp2_with (first
                | (go_at_call 112; (with_reducible refine (TP.out _).mono ?_); rintro e w' ⟨rfl, hb⟩; replace PB := Lib.hid (PB.out.below hb); replace ST := Lib.hid (ST.out.call hb); clear hb)
                | ((with_reducible refine Calm.region (id := 8) (fin := ?fin_11) ?hm_11 10 [(20, .pointer (some ⟨g1, 1, none⟩)), (21, .int .i64 (fn)), (22, .bool true), (23, .bool true), (24, .int .u32 (wv)), (25, .int .i64 (gv)), (26, .pointer (some ⟨g1, 1, none⟩)), (27, .int .i64 (fn)), (28, .bool (gv == fn)), (29, .bool (gv == fn))] ?hp_11 ?hin_11 ?hfin_11 ?hcalm_11 ?_); (case hm_11 => rfl); (case hp_11 => kernel_rfl); (case hin_11 => kernel_rfl); (case hfin_11 => (simp only [Reg.puts, Act.put, List.setIfInBounds_toArray, List.set_cons_zero, List.set_cons_succ]; try rfl)); (case hcalm_11 => (simp only [List.take]; (repeat' (first | exact Calm.calm_nil | refine Calm.calm_cons ?_ ?_)); all_goals (first | exact calm_loadg ST.out.one rfl rfl rfl pl_int rfl rfl | exact calm_callgg rfl rfl (fun X => by go_simp) (fun X => TR.out X) rfl | exact calm_slotg rfl rfl (fun X => by first | (go_simp; done))))); intro w' hb; replace PB := Lib.hid (PB.out.below hb); replace ST := Lib.hid (ST.out.call hb); clear hb; simp only [List.drop]))
              have key : fn = 0 ∨ ∀ n, n < 8 * t + (f + 1) → rgL.getD n 0 ≠ fn := by
                refine .inr fun n hn => ?_
                by_cases e : n = 8 * t + f
                · rw [e, HG.out]; exact HN.out
                · rcases HM.out with h | h
                  · exact absurd h H0.out
                  · exact h n (by omega)
              refine ⟨⟨f + 1, by omega, by go_num, ST.out, PB.out, ?_⟩, by simp [intOf]; omega⟩
              first
                | exact key
        · obtain rfl : f = 8 := by omega
          go_wp2
          refine ⟨⟨t + 1, by omega, by go_num, ST.out, PB.out, ?_⟩, by simp [intOf]; omega⟩
          exact HM.out
    · obtain rfl : t = 6 := by omega
      have HR := Lib.hid (rw_miss HM.out)
      clear HM
      go_wp2
      go_ret
      exact ⟨by rw [HR.out]; rfl, ST.out.below⟩
end Go.Proofs.YtidiojhefjhojaaGreat.Enc
end
section
namespace Go.Proofs.YtidiojhefjhojaaGreat.Enc
open Go Go.RowKit
set_option linter.unusedVariables false
set_option linter.unusedSimpArgs false
/-- An instruction's fields, within bounds. -/
structure Fits (i : Ins) : Prop where
  rd : 0 ≤ i.rd ∧ i.rd < 32
  rs1 : 0 ≤ i.rs1 ∧ i.rs1 < 32
  rs2 : 0 ≤ i.rs2 ∧ i.rs2 < 32
  k : 1 ≤ i.k ∧ i.k ≤ 20
  sz : i.sz = 0 ∨ i.sz = 1 ∨ i.sz = 2 ∨ i.sz = 4 ∨ i.sz = 8
  u : i.k = 1 ∨ i.k = 2 → i.imm % 4096 = 0 ∧ -2147483648 ≤ i.imm ∧ i.imm < 2147483648
  j : i.k = 3 → i.imm % 2 = 0 ∧ -1048576 ≤ i.imm ∧ i.imm < 1048576
  b : i.k = 5 → i.imm % 2 = 0 ∧ -4096 ≤ i.imm ∧ i.imm < 4096
  o : i.k ≠ 1 → i.k ≠ 2 → i.k ≠ 3 → i.k ≠ 5 → -2048 ≤ i.imm ∧ i.imm < 4096
theorem immI_bd (a : Int) : -2048 ≤ immI a ∧ immI a < 2048 := by
  have h := rawI_bd a
  unfold immI sx
  simp only [Nat.reduceSub, Nat.reducePow] at h ⊢
  split <;> omega
theorem immS_bd (a : Int) : -2048 ≤ immS a ∧ immS a < 2048 := by
  have h := rawS_bd a
  unfold immS sx
  simp only [Nat.reduceSub, Nat.reducePow] at h ⊢
  split <;> omega
theorem immU_bd (a : Int) : immU a % 4096 = 0 ∧ -2147483648 ≤ immU a ∧ immU a < 2147483648 := by
  have h := rawU_bd a
  have hm : rawU a % 4096 = 0 := by unfold rawU; omega
  unfold immU sx
  simp only [Nat.reduceSub, Nat.reducePow] at h ⊢
  split <;> omega
theorem immJ_bd (a : Int) : immJ a % 2 = 0 ∧ -1048576 ≤ immJ a ∧ immJ a < 1048576 := by
  have h := rawJ_bd a
  have hm : rawJ a % 2 = 0 := by unfold rawJ; omega
  unfold immJ sx
  simp only [Nat.reduceSub, Nat.reducePow] at h ⊢
  split <;> omega
theorem immB_bd (a : Int) : immB a % 2 = 0 ∧ -4096 ≤ immB a ∧ immB a < 4096 := by
  have h := rawB_bd a
  have hm : rawB a % 2 = 0 := by unfold rawB; omega
  unfold immB sx
  simp only [Nat.reduceSub, Nat.reducePow] at h ⊢
  split <;> omega
theorem im13_imm (hi x sh m : Int) : (im13 hi x sh m).2.1 = sh ∨ (im13 hi x sh m).2.1 = m := by
  unfold im13
  repeat' split
  all_goals simp
theorem im1b_imm (s x sh m : Int) : (im1b s x sh m).2.1 = sh ∨ (im1b s x sh m).2.1 = m := by
  unfold im1b
  repeat' split
  all_goals simp
theorem atF_k {f r : Int} (h : (atF f r).2.2 = true) : 15 ≤ (atF f r).1 ∧ (atF f r).1 ≤ 17 := by
  unfold atF at h ⊢
  repeat' split
  all_goals simp_all
theorem ld_sz {x : Int} (h0 : 0 ≤ x) (h : x < 7) : pk ldL x = 0 ∨ pk ldL x = 1 ∨ pk ldL x = 2 ∨ pk ldL x = 4 ∨ pk ldL x = 8 := by
  obtain h | h | h | h | h | h | h : x = 0 ∨ x = 1 ∨ x = 2 ∨ x = 3 ∨ x = 4 ∨ x = 5 ∨ x = 6 := by omega
  all_goals (subst h; decide)
theorem st_sz {x : Int} (h0 : 0 ≤ x) (h : x < 4) : pk stL x = 0 ∨ pk stL x = 1 ∨ pk stL x = 2 ∨ pk stL x = 4 ∨ pk stL x = 8 := by
  obtain h | h | h | h : x = 0 ∨ x = 1 ∨ x = 2 ∨ x = 3 := by omega
  all_goals (subst h; decide)
theorem ite_some {α : Type} {p : Prop} [Decidable p] {x y : Option α} {i : α} (h : (if p then x else y) = some i) : (p ∧ x = some i) ∨ (¬ p ∧ y = some i) := by
  by_cases c : p
  · rw [if_pos c] at h; exact .inl ⟨c, h⟩
  · rw [if_neg c] at h; exact .inr ⟨c, h⟩
theorem z32 : 0 ≤ (0 : Int) ∧ (0 : Int) < 32 := by decide
theorem sysD_fits {a : Int} {i : Ins} (h : sysD a = some i) : Fits i := by
  have b1 := fd_lit (a := a) (h := 11) (l := 7) (n := 32) rfl
  have b2 := fd_lit (a := a) (h := 19) (l := 15) (n := 32) rfl
  have b3 := fd_lit (a := a) (h := 24) (l := 20) (n := 32) rfl
  have b5 := fd_lit (a := a) (h := 31) (l := 20) (n := 4096) rfl
  unfold sysD at h
  rcases ite_some h with ⟨c, h⟩ | ⟨_, h⟩
  · injection h with h
    subst h
    exact ⟨z32, z32, z32, (show (1 : Int) ≤ 11 ∧ (11 : Int) ≤ 20 from by decide), .inl rfl, fun h => absurd (show (11 : Int) = 1 ∨ (11 : Int) = 2 from h) (by decide), fun h => absurd (show (11 : Int) = 3 from h) (by decide), fun h => absurd (show (11 : Int) = 5 from h) (by decide), fun _ _ _ _ => (show (-2048 : Int) ≤ 0 ∧ (0 : Int) < 4096 from by decide)⟩
  rcases ite_some h with ⟨c, h⟩ | ⟨_, h⟩
  · injection h with h
    subst h
    exact ⟨z32, z32, z32, (show (1 : Int) ≤ 12 ∧ (12 : Int) ≤ 20 from by decide), .inl rfl, fun h => absurd (show (12 : Int) = 1 ∨ (12 : Int) = 2 from h) (by decide), fun h => absurd (show (12 : Int) = 3 from h) (by decide), fun h => absurd (show (12 : Int) = 5 from h) (by decide), fun _ _ _ _ => (show (-2048 : Int) ≤ 0 ∧ (0 : Int) < 4096 from by decide)⟩
  rcases ite_some h with ⟨c, h⟩ | ⟨_, h⟩
  · injection h with h
    subst h
    exact ⟨z32, z32, z32, (show (1 : Int) ≤ 18 ∧ (18 : Int) ≤ 20 from by decide), .inl rfl, fun h => absurd (show (18 : Int) = 1 ∨ (18 : Int) = 2 from h) (by decide), fun h => absurd (show (18 : Int) = 3 from h) (by decide), fun h => absurd (show (18 : Int) = 5 from h) (by decide), fun _ _ _ _ => (show (-2048 : Int) ≤ 0 ∧ (0 : Int) < 4096 from by decide)⟩
  rcases ite_some h with ⟨c, h⟩ | ⟨_, h⟩
  · injection h with h
    subst h
    exact ⟨z32, z32, z32, (show (1 : Int) ≤ 19 ∧ (19 : Int) ≤ 20 from by decide), .inl rfl, fun h => absurd (show (19 : Int) = 1 ∨ (19 : Int) = 2 from h) (by decide), fun h => absurd (show (19 : Int) = 3 from h) (by decide), fun h => absurd (show (19 : Int) = 5 from h) (by decide), fun _ _ _ _ => (show (-2048 : Int) ≤ 0 ∧ (0 : Int) < 4096 from by decide)⟩
  rcases ite_some h with ⟨_, h⟩ | ⟨_, h⟩
  · rcases ite_some h with ⟨c, h⟩ | ⟨_, h⟩
    · injection h with h
      subst h
      exact ⟨z32, b2, b3, (show (1 : Int) ≤ 20 ∧ (20 : Int) ≤ 20 from by decide), .inl rfl, fun h => absurd (show (20 : Int) = 1 ∨ (20 : Int) = 2 from h) (by decide), fun h => absurd (show (20 : Int) = 3 from h) (by decide), fun h => absurd (show (20 : Int) = 5 from h) (by decide), fun _ _ _ _ => (show (-2048 : Int) ≤ 0 ∧ (0 : Int) < 4096 from by decide)⟩
    · cases h
  rcases ite_some h with ⟨_, h⟩ | ⟨_, h⟩
  · cases h
  · injection h with h
    subst h
    by_cases c : fd a 14 12 < 4
    · simp only [if_pos c]
      exact ⟨b1, b2, z32, (show (1 : Int) ≤ 13 ∧ (13 : Int) ≤ 20 from by decide), .inl rfl, fun h => absurd (show (13 : Int) = 1 ∨ (13 : Int) = 2 from h) (by decide), fun h => absurd (show (13 : Int) = 3 from h) (by decide), fun h => absurd (show (13 : Int) = 5 from h) (by decide), fun _ _ _ _ => ⟨by have := b5.1; show (-2048 : Int) ≤ fd a 31 20; omega, b5.2⟩⟩
    · simp only [if_neg c]
      exact ⟨b1, b2, z32, (show (1 : Int) ≤ 14 ∧ (14 : Int) ≤ 20 from by decide), .inl rfl, fun h => absurd (show (14 : Int) = 1 ∨ (14 : Int) = 2 from h) (by decide), fun h => absurd (show (14 : Int) = 3 from h) (by decide), fun h => absurd (show (14 : Int) = 5 from h) (by decide), fun _ _ _ _ => ⟨by have := b5.1; show (-2048 : Int) ≤ fd a 31 20; omega, b5.2⟩⟩
theorem atD_fits {a : Int} {i : Ins} (h : atD a = some i) : Fits i := by
  have b1 := fd_lit (a := a) (h := 11) (l := 7) (n := 32) rfl
  have b2 := fd_lit (a := a) (h := 19) (l := 15) (n := 32) rfl
  have b3 := fd_lit (a := a) (h := 24) (l := 20) (n := 32) rfl
  have k1 := @atF_k (fd a 31 27) (fd a 24 20)
  unfold atD at h
  generalize (atF (fd a 31 27) (fd a 24 20)) = q3 at *
  rcases ite_some h with ⟨_, h⟩ | ⟨_, h⟩
  · rcases ite_some h with ⟨c, h⟩ | ⟨_, h⟩
    · injection h with h
      subst h
      have k2 := k1 c
      refine ⟨b1, b2, b3, ⟨by show 1 ≤ q3.1; omega, by show q3.1 ≤ 20; omega⟩, ?_, fun h => ?_, fun h => ?_, fun h => ?_, fun _ _ _ _ => (show (-2048 : Int) ≤ 0 ∧ (0 : Int) < 4096 from by decide)⟩
      · by_cases c2 : fd a 14 12 = 2
        · exact .inr (.inr (.inr (.inl (if_pos c2))))
        · exact .inr (.inr (.inr (.inr (if_neg c2))))
      · have h' : q3.1 = 1 ∨ q3.1 = 2 := h; omega
      · have h' : q3.1 = 3 := h; omega
      · have h' : q3.1 = 5 := h; omega
    · cases h
  · cases h
theorem dec_fits {a : Int} {i : Ins} (h : dec a = some i) : Fits i := by
  have b1 := fd_lit (a := a) (h := 11) (l := 7) (n := 32) rfl
  have b2 := fd_lit (a := a) (h := 19) (l := 15) (n := 32) rfl
  have b3 := fd_lit (a := a) (h := 24) (l := 20) (n := 32) rfl
  have b4 := fd_lit (a := a) (h := 14) (l := 12) (n := 8) rfl
  have b6 := fd_lit (a := a) (h := 25) (l := 20) (n := 64) rfl
  have bI := immI_bd a
  have bS := immS_bd a
  have bU := immU_bd a
  have bJ := immJ_bd a
  have bB := immB_bd a
  have m1 := im13_imm (fd a 31 26) (fd a 14 12) (fd a 25 20) (immI a)
  have m2 := im1b_imm (fd a 31 25) (fd a 14 12) (fd a 24 20) (immI a)
  have n1 : -2048 ≤ (im13 (fd a 31 26) (fd a 14 12) (fd a 25 20) (immI a)).2.1 ∧ (im13 (fd a 31 26) (fd a 14 12) (fd a 25 20) (immI a)).2.1 < 4096 := by rcases m1 with m1 | m1 <;> (rw [m1]; omega)
  have n2 : -2048 ≤ (im1b (fd a 31 25) (fd a 14 12) (fd a 24 20) (immI a)).2.1 ∧ (im1b (fd a 31 25) (fd a 14 12) (fd a 24 20) (immI a)).2.1 < 4096 := by rcases m2 with m2 | m2 <;> (rw [m2]; omega)
  unfold dec decOp at h
  rcases ite_some h with ⟨c, h⟩ | ⟨_, h⟩
  · injection h with h
    subst h
    exact ⟨b1, z32, z32, (show (1 : Int) ≤ 1 ∧ (1 : Int) ≤ 20 from by decide), .inl rfl, fun _ => bU, fun h => absurd (show (1 : Int) = 3 from h) (by decide), fun h => absurd (show (1 : Int) = 5 from h) (by decide), fun h => absurd rfl h⟩
  rcases ite_some h with ⟨c, h⟩ | ⟨_, h⟩
  · injection h with h
    subst h
    exact ⟨b1, z32, z32, (show (1 : Int) ≤ 2 ∧ (2 : Int) ≤ 20 from by decide), .inl rfl, fun _ => bU, fun h => absurd (show (2 : Int) = 3 from h) (by decide), fun h => absurd (show (2 : Int) = 5 from h) (by decide), fun _ h => absurd rfl h⟩
  rcases ite_some h with ⟨c, h⟩ | ⟨_, h⟩
  · injection h with h
    subst h
    exact ⟨b1, z32, z32, (show (1 : Int) ≤ 3 ∧ (3 : Int) ≤ 20 from by decide), .inl rfl, fun h => absurd (show (3 : Int) = 1 ∨ (3 : Int) = 2 from h) (by decide), fun _ => bJ, fun h => absurd (show (3 : Int) = 5 from h) (by decide), fun _ _ h => absurd rfl h⟩
  rcases ite_some h with ⟨_, h⟩ | ⟨_, h⟩
  · rcases ite_some h with ⟨c, h⟩ | ⟨_, h⟩
    · injection h with h
      subst h
      exact ⟨b1, b2, z32, (show (1 : Int) ≤ 4 ∧ (4 : Int) ≤ 20 from by decide), .inl rfl, fun h => absurd (show (4 : Int) = 1 ∨ (4 : Int) = 2 from h) (by decide), fun h => absurd (show (4 : Int) = 3 from h) (by decide), fun h => absurd (show (4 : Int) = 5 from h) (by decide), fun _ _ _ _ => ⟨bI.1, Int.lt_trans bI.2 (by decide)⟩⟩
    · cases h
  rcases ite_some h with ⟨_, h⟩ | ⟨_, h⟩
  · rcases ite_some h with ⟨_, h⟩ | ⟨c, h⟩
    · cases h
    · injection h with h
      subst h
      exact ⟨z32, b2, b3, (show (1 : Int) ≤ 5 ∧ (5 : Int) ≤ 20 from by decide), .inl rfl, fun h => absurd (show (5 : Int) = 1 ∨ (5 : Int) = 2 from h) (by decide), fun h => absurd (show (5 : Int) = 3 from h) (by decide), fun _ => bB, fun _ _ _ h => absurd rfl h⟩
  rcases ite_some h with ⟨_, h⟩ | ⟨_, h⟩
  · rcases ite_some h with ⟨c, h⟩ | ⟨_, h⟩
    · injection h with h
      subst h
      exact ⟨b1, b2, z32, (show (1 : Int) ≤ 6 ∧ (6 : Int) ≤ 20 from by decide), ld_sz b4.1 c, fun h => absurd (show (6 : Int) = 1 ∨ (6 : Int) = 2 from h) (by decide), fun h => absurd (show (6 : Int) = 3 from h) (by decide), fun h => absurd (show (6 : Int) = 5 from h) (by decide), fun _ _ _ _ => ⟨bI.1, Int.lt_trans bI.2 (by decide)⟩⟩
    · cases h
  rcases ite_some h with ⟨_, h⟩ | ⟨_, h⟩
  · rcases ite_some h with ⟨c, h⟩ | ⟨_, h⟩
    · injection h with h
      subst h
      exact ⟨z32, b2, b3, (show (1 : Int) ≤ 7 ∧ (7 : Int) ≤ 20 from by decide), st_sz b4.1 c, fun h => absurd (show (7 : Int) = 1 ∨ (7 : Int) = 2 from h) (by decide), fun h => absurd (show (7 : Int) = 3 from h) (by decide), fun h => absurd (show (7 : Int) = 5 from h) (by decide), fun _ _ _ _ => ⟨bS.1, Int.lt_trans bS.2 (by decide)⟩⟩
    · cases h
  rcases ite_some h with ⟨_, h⟩ | ⟨_, h⟩
  · rcases ite_some h with ⟨c, h⟩ | ⟨_, h⟩
    · injection h with h
      subst h
      exact ⟨b1, b2, z32, (show (1 : Int) ≤ 9 ∧ (9 : Int) ≤ 20 from by decide), .inl rfl, fun h => absurd (show (9 : Int) = 1 ∨ (9 : Int) = 2 from h) (by decide), fun h => absurd (show (9 : Int) = 3 from h) (by decide), fun h => absurd (show (9 : Int) = 5 from h) (by decide), fun _ _ _ _ => n1⟩
    · cases h
  rcases ite_some h with ⟨_, h⟩ | ⟨_, h⟩
  · rcases ite_some h with ⟨c, h⟩ | ⟨_, h⟩
    · injection h with h
      subst h
      exact ⟨b1, b2, z32, (show (1 : Int) ≤ 9 ∧ (9 : Int) ≤ 20 from by decide), .inl rfl, fun h => absurd (show (9 : Int) = 1 ∨ (9 : Int) = 2 from h) (by decide), fun h => absurd (show (9 : Int) = 3 from h) (by decide), fun h => absurd (show (9 : Int) = 5 from h) (by decide), fun _ _ _ _ => n2⟩
    · cases h
  rcases ite_some h with ⟨_, h⟩ | ⟨_, h⟩
  · rcases ite_some h with ⟨_, h⟩ | ⟨c, h⟩
    · cases h
    · injection h with h
      subst h
      exact ⟨b1, b2, b3, (show (1 : Int) ≤ 8 ∧ (8 : Int) ≤ 20 from by decide), .inl rfl, fun h => absurd (show (8 : Int) = 1 ∨ (8 : Int) = 2 from h) (by decide), fun h => absurd (show (8 : Int) = 3 from h) (by decide), fun h => absurd (show (8 : Int) = 5 from h) (by decide), fun _ _ _ _ => (show (-2048 : Int) ≤ 0 ∧ (0 : Int) < 4096 from by decide)⟩
  rcases ite_some h with ⟨_, h⟩ | ⟨_, h⟩
  · rcases ite_some h with ⟨_, h⟩ | ⟨c, h⟩
    · cases h
    · injection h with h
      subst h
      exact ⟨b1, b2, b3, (show (1 : Int) ≤ 8 ∧ (8 : Int) ≤ 20 from by decide), .inl rfl, fun h => absurd (show (8 : Int) = 1 ∨ (8 : Int) = 2 from h) (by decide), fun h => absurd (show (8 : Int) = 3 from h) (by decide), fun h => absurd (show (8 : Int) = 5 from h) (by decide), fun _ _ _ _ => (show (-2048 : Int) ≤ 0 ∧ (0 : Int) < 4096 from by decide)⟩
  rcases ite_some h with ⟨_, h⟩ | ⟨_, h⟩
  · rcases ite_some h with ⟨c, h⟩ | ⟨_, h⟩
    · injection h with h
      subst h
      exact ⟨z32, z32, z32, (show (1 : Int) ≤ 10 ∧ (10 : Int) ≤ 20 from by decide), .inl rfl, fun h => absurd (show (10 : Int) = 1 ∨ (10 : Int) = 2 from h) (by decide), fun h => absurd (show (10 : Int) = 3 from h) (by decide), fun h => absurd (show (10 : Int) = 5 from h) (by decide), fun _ _ _ _ => (show (-2048 : Int) ≤ 0 ∧ (0 : Int) < 4096 from by decide)⟩
    · cases h
  rcases ite_some h with ⟨_, h⟩ | ⟨_, h⟩
  · exact sysD_fits h
  rcases ite_some h with ⟨_, h⟩ | ⟨_, h⟩
  · exact atD_fits h
  · cases h
end Go.Proofs.YtidiojhefjhojaaGreat.Enc
end
section
namespace Go.Proofs.YtidiojhefjhojaaGreat.Enc
open Go Go.RowKit
set_option linter.unusedVariables false
set_option linter.unusedSimpArgs false
theorem bor_bv (x y : Int) : bor x y = ((BitVec.ofInt 32 x ||| BitVec.ofInt 32 y).toNat : Int) := by
  show IntKind.u32.wrap ((BitVec.ofInt 32 x ||| BitVec.ofInt 32 y).toNat : Int) = _
  have := (BitVec.ofInt 32 x ||| BitVec.ofInt 32 y).isLt
  show (_ : Int) % 4294967296 = _
  omega
theorem ofInt_toNat (z : BitVec 32) : BitVec.ofInt 32 ((z.toNat : Nat) : Int) = z := by
  rw [BitVec.ofInt_natCast, BitVec.ofNat_toNat, BitVec.setWidth_eq]
theorem bor_w (x y : Int) : W32 (bor x y) := by
  rw [bor_bv]
  have := (BitVec.ofInt 32 x ||| BitVec.ofInt 32 y).isLt
  exact ⟨by omega, by omega⟩
theorem bor_comm (x y : Int) : bor x y = bor y x := by rw [bor_bv, bor_bv, BitVec.or_comm]
theorem bor_assoc (x y z : Int) : bor (bor x y) z = bor x (bor y z) := by
  rw [bor_bv (bor x y) z, bor_bv x (bor y z), bor_bv x y, bor_bv y z, ofInt_toNat, ofInt_toNat, BitVec.or_assoc]
instance : Std.Associative bor := ⟨bor_assoc⟩
instance : Std.Commutative bor := ⟨bor_comm⟩
theorem pt0 (n l : Nat) : pt 0 n l = 0 := by unfold pt; simp
end Go.Proofs.YtidiojhefjhojaaGreat.Enc
end
section
namespace Go.Proofs.YtidiojhefjhojaaGreat.Enc
open Go Go.RowKit
set_option linter.unusedVariables false
set_option linter.unusedSimpArgs false
set_option maxRecDepth 100000
/-- The word that encode puts together. -/
def encP (i : Ins) : Int :=
  if i.k = 1 then bor (bor 55 (regW i.rd i.rs1 i.rs2)) (pt (i.imm / 4096) 20 12) else
  if i.k = 2 then bor (bor 23 (regW i.rd i.rs1 i.rs2)) (pt (i.imm / 4096) 20 12) else
  if i.k = 3 then bor (bor (bor (bor (bor 111 (regW i.rd i.rs1 i.rs2)) (pt (i.imm / 1048576) 1 31)) (pt (i.imm / 4096) 8 12)) (pt (i.imm / 2048) 1 20)) (pt (i.imm / 2) 10 21) else
  if i.k = 4 then bor (bor 103 (regW i.rd i.rs1 i.rs2)) (pt i.imm 12 20) else
  if i.k = 5 then bor (bor (bor (bor (bor (bor 99 (regW i.rd i.rs1 i.rs2)) (pt (ix brI i.fn) 3 12)) (pt (i.imm / 4096) 1 31)) (pt (i.imm / 2048) 1 7)) (pt (i.imm / 32) 6 25)) (pt (i.imm / 2) 4 8) else
  if i.k = 6 then (if i.sg then bor (bor (bor 3 (regW i.rd i.rs1 i.rs2)) (pt (ix ld4 i.sz) 3 12)) (pt i.imm 12 20) else bor (bor (bor 3 (regW i.rd i.rs1 i.rs2)) (pt (ix ld4 i.sz + 4) 3 12)) (pt i.imm 12 20)) else
  if i.k = 7 then bor (bor (bor (bor 35 (regW i.rd i.rs1 i.rs2)) (pt (ix ld4 i.sz) 3 12)) (pt (i.imm / 32) 7 25)) (pt i.imm 5 7) else
  if i.k = 8 then bor (pk rwL i.fn) (regW i.rd i.rs1 i.rs2) else
  if i.k = 9 then bor (encI i.fn i.imm) (regW i.rd i.rs1 i.rs2) else
  if i.k = 10 then 15 else
  if i.k = 11 then 115 else
  if i.k = 12 then 1048691 else
  if i.k = 13 then bor (bor (bor 115 (bits .and .u32 (regW i.rd i.rs1 i.rs2) 1048575)) (pt i.fn 2 12)) (pt i.imm 12 20) else
  if i.k = 14 then bor (bor (bor 16499 (bits .and .u32 (regW i.rd i.rs1 i.rs2) 1048575)) (pt i.fn 2 12)) (pt i.imm 12 20) else
  if i.k = 15 then bor (bor 268435503 (regW i.rd i.rs1 i.rs2)) (pt (ix at2 i.sz + 2) 3 12) else
  if i.k = 16 then bor (bor 402653231 (regW i.rd i.rs1 i.rs2)) (pt (ix at2 i.sz + 2) 3 12) else
  if i.k = 17 then bor (bor (bor 47 (regW i.rd i.rs1 i.rs2)) (pt (ix at2 i.sz + 2) 3 12)) (pt (ix amL i.fn) 5 27) else
  if i.k = 18 then 270532723 else
  if i.k = 19 then 273678451 else
  if i.k = 20 then bor 301990003 (regW i.rd i.rs1 i.rs2) else
  0
theorem encP_w (i : Ins) : W32 (encP i) := by
  obtain ⟨k, fn, rd, rs1, rs2, imm, sz, sg⟩ := i
  by_cases n1 : k = 1
  · subst n1
    exact bor_w _ _
  by_cases n2 : k = 2
  · subst n2
    exact bor_w _ _
  by_cases n3 : k = 3
  · subst n3
    exact bor_w _ _
  by_cases n4 : k = 4
  · subst n4
    exact bor_w _ _
  by_cases n5 : k = 5
  · subst n5
    exact bor_w _ _
  by_cases n6 : k = 6
  · subst n6
    cases sg <;> exact bor_w _ _
  by_cases n7 : k = 7
  · subst n7
    exact bor_w _ _
  by_cases n8 : k = 8
  · subst n8
    exact bor_w _ _
  by_cases n9 : k = 9
  · subst n9
    exact bor_w _ _
  by_cases n10 : k = 10
  · subst n10
    exact (show W32 15 from ⟨by decide, by decide⟩)
  by_cases n11 : k = 11
  · subst n11
    exact (show W32 115 from ⟨by decide, by decide⟩)
  by_cases n12 : k = 12
  · subst n12
    exact (show W32 1048691 from ⟨by decide, by decide⟩)
  by_cases n13 : k = 13
  · subst n13
    exact bor_w _ _
  by_cases n14 : k = 14
  · subst n14
    exact bor_w _ _
  by_cases n15 : k = 15
  · subst n15
    exact bor_w _ _
  by_cases n16 : k = 16
  · subst n16
    exact bor_w _ _
  by_cases n17 : k = 17
  · subst n17
    exact bor_w _ _
  by_cases n18 : k = 18
  · subst n18
    exact (show W32 270532723 from ⟨by decide, by decide⟩)
  by_cases n19 : k = 19
  · subst n19
    exact (show W32 273678451 from ⟨by decide, by decide⟩)
  by_cases n20 : k = 20
  · subst n20
    exact bor_w _ _
  rw [show encP ⟨k, fn, rd, rs1, rs2, imm, sz, sg⟩ = 0 from by simp [encP, n1, n2, n3, n4, n5, n6, n7, n8, n9, n10, n11, n12, n13, n14, n15, n16, n17, n18, n19, n20]]
  exact ⟨by decide, by decide⟩
/-- The word that an instruction is written as: the one it was read from, without the idle bits. -/
def cn (a : Int) : Int := if fd a 6 0 = 15 then 15 else if fd a 6 0 = 47 then a - fd a 26 25 * 33554432 else a
end Go.Proofs.YtidiojhefjhojaaGreat.Enc
end
section
namespace Go.Proofs.YtidiojhefjhojaaGreat.Enc
open Go Go.RowKit Go.Proofs.YtidiojhefjhojaaGreat.Step
set_option linter.unusedVariables false
set_option linter.unusedSimpArgs false
set_option maxRecDepth 100000
section
variable {P : Program} {ops : Array Oper} {rest : List Oper} {o : Oper} {a : Act} {W : World} {Q : Exit → Act → World → Prop}
/-- A variable of several cells is read, by an operation whose guard says yes. -/
theorem loadAllW {t : TypeId} {x : Operand} {g : Nat} {cs : Array Value} {T : TypeId} {d : TypeDesc} (hB : Blk W g cs T) (hw : Region.wanted o (yielded ops a.tmps) = true) (ho : o.op = .load t x) (hx : a.eval x = .pointer (some ⟨g, 0, none⟩)) (hu : P.underlying t = some d)
    (hd : (match d with | .struct _ | .array _ _ => true | _ => false) = true) (hi : (P.info? t).map (·.size) = some cs.size) (h : wpList P ops Q rest (a.put o.dst (.agg cs)) W) : wpList P ops Q (o :: rest) a W := by
  refine BigFrame.wpList_want hw fun K hK => ?_
  have h1 := run_loadVar_row (P := P) W g T t cs (0, 0) d hB.out hu hd hi
  have h2 : (execOp a.eval o).run P W = .ok (.value (.agg cs)) W := by simp [execOp, ho, hx, Instr.loadAt, Instr.sureAddr, h1, Result.andThen]
  unfold Oper.wp; rw [h2]; exact hK _ _ h
end
end Go.Proofs.YtidiojhefjhojaaGreat.Enc
end
