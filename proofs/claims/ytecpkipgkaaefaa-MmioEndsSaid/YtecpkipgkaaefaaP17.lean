/- Parts of the walks and laws for the claim: Plan; no conditions beyond the theorems' own. -/
import Derived.Test.YtecpkipgkaaefaaP9
import Derived.Test.YtecpkipgkaaefaaP10
import Derived.Test.YtecpkipgkaaefaaP14
import Derived.Test.YtecpkipgkaaefaaP16
section
namespace Go.Proofs.Ytecpkipgkaaefaa.Hart
open Go Go.RowKit Go.Proofs.Ytecpkipgkaaefaa.Step Go.Proofs.Ytecpkipgkaaefaa.Enc Go.Proofs.Ytecpkipgkaaefaa.Kn
set_option linter.unusedVariables false
set_option linter.unusedSimpArgs false
set_option maxRecDepth 100000
theorem ta_ll (v : Value) (w : World) : (Instr.typeAssert (.iface 46 v) 20 46 true).run Try.prog w = .ok (.tuple #[v, .bool true]) w := by kernel_rfl
theorem ta_ss (v : Value) (w : World) : (Instr.typeAssert (.iface 47 v) 20 47 true).run Try.prog w = .ok (.tuple #[v, .bool true]) w := by kernel_rfl
theorem ta_sl (v : Value) (w : World) : (Instr.typeAssert (.iface 47 v) 20 46 true).run Try.prog w = .ok (.tuple #[.agg #[.int .i64 0, .int .i64 0, .int .i64 0, .int .i64 0, .int .i64 0, .int .i64 0, .int .i64 0, .bool false], .bool false]) w := by kernel_rfl
theorem ta_nl (w : World) : (Instr.typeAssert .nilIface 20 46 true).run Try.prog w = .ok (.tuple #[.agg #[.int .i64 0, .int .i64 0, .int .i64 0, .int .i64 0, .int .i64 0, .int .i64 0, .int .i64 0, .bool false], .bool false]) w := by kernel_rfl
theorem ta_ns (w : World) : (Instr.typeAssert .nilIface 20 47 true).run Try.prog w = .ok (.tuple #[.agg #[.int .i64 0, .int .i64 0, .int .i64 0, .int .i64 0, .int .i64 0, .int .i64 0, .int .i64 0, .bool false], .bool false]) w := by kernel_rfl
theorem conc_l : Try.prog.concrete 46 = true := by kernel_rfl
theorem conc_s : Try.prog.concrete 47 = true := by kernel_rfl
set_option maxHeartbeats 1000000 in
theorem what_load (fn rd n m imm sz : Int) (sg : Bool) (w : World) : Calls Try.prog 16 #[.agg #[.int .i64 6, .int .i64 fn, .int .i64 rd, .int .i64 n, .int .i64 m, .int .i64 imm, .int .i64 sz, .bool sg]] w fun e w' => e = .returned (.iface 46 (.agg #[.int .i64 6, .int .i64 fn, .int .i64 rd, .int .i64 n, .int .i64 m, .int .i64 imm, .int .i64 sz, .bool sg])) ∧ Below w.heap.size w w' := by
  have t1 := conc_l
  go_enter Try.func16, Try.ntmps16
  have ST := Lib.hid (Kn.nil (S := Step.Nil) (W := w))
  go_wp2_with (first
    | ((with_reducible refine Step.gate_box (t := 41) rfl ?_); refine Step.fresh (cs := #[.int .i64 6, .int .i64 fn, .int .i64 rd, .int .i64 n, .int .i64 m, .int .i64 imm, .int .i64 sz, .bool sg]) (T := 41) rfl ?hr ?_; (case hr => first | (go_simp; done) | (go_simp; rfl)); intro g1 w1 b hg hb; replace ST := Lib.hid (ST.out.made b hg hb); clear b hb; clear hg)
    | ((with_reducible refine Step.gate_load (t := 3) rfl ?_); refine Step.load ST.out.at0 rfl rfl rfl pl_int rfl ?_)
    | ((with_reducible refine Step.gate_load (t := 41) rfl ?_); refine Step.loadAll ST.out.at0 rfl rfl rfl Try.underlying41 rfl size_inst ?_))
  all_goals (go_ret; exact ⟨rfl, ST.out.below⟩)
set_option maxHeartbeats 1000000 in
theorem what_store (fn rd n m imm sz : Int) (sg : Bool) (w : World) : Calls Try.prog 16 #[.agg #[.int .i64 7, .int .i64 fn, .int .i64 rd, .int .i64 n, .int .i64 m, .int .i64 imm, .int .i64 sz, .bool sg]] w fun e w' => e = .returned (.iface 47 (.agg #[.int .i64 7, .int .i64 fn, .int .i64 rd, .int .i64 n, .int .i64 m, .int .i64 imm, .int .i64 sz, .bool sg])) ∧ Below w.heap.size w w' := by
  have t1 := conc_s
  go_enter Try.func16, Try.ntmps16
  have ST := Lib.hid (Kn.nil (S := Step.Nil) (W := w))
  go_wp2_with (first
    | ((with_reducible refine Step.gate_box (t := 41) rfl ?_); refine Step.fresh (cs := #[.int .i64 7, .int .i64 fn, .int .i64 rd, .int .i64 n, .int .i64 m, .int .i64 imm, .int .i64 sz, .bool sg]) (T := 41) rfl ?hr ?_; (case hr => first | (go_simp; done) | (go_simp; rfl)); intro g1 w1 b hg hb; replace ST := Lib.hid (ST.out.made b hg hb); clear b hb; clear hg)
    | ((with_reducible refine Step.gate_load (t := 3) rfl ?_); refine Step.load ST.out.at0 rfl rfl rfl pl_int rfl ?_)
    | ((with_reducible refine Step.gate_load (t := 41) rfl ?_); refine Step.loadAll ST.out.at0 rfl rfl rfl Try.underlying41 rfl size_inst ?_))
  all_goals (go_ret; exact ⟨rfl, ST.out.below⟩)
set_option maxHeartbeats 1000000 in
theorem what_no (fn rd n m imm sz : Int) (sg : Bool) (k : Int) (n6 : k ≠ 6) (n7 : k ≠ 7) (w : World) : Calls Try.prog 16 #[.agg #[.int .i64 k, .int .i64 fn, .int .i64 rd, .int .i64 n, .int .i64 m, .int .i64 imm, .int .i64 sz, .bool sg]] w fun e w' => e = .returned (.nilIface) ∧ Below w.heap.size w w' := by
  have e1 : (k == 6) = false := beq_eq_false_iff_ne.2 n6
  have e2 : (k == 7) = false := beq_eq_false_iff_ne.2 n7
  go_enter Try.func16, Try.ntmps16
  have ST := Lib.hid (Kn.nil (S := Step.Nil) (W := w))
  go_wp2_with (first
    | ((with_reducible refine Step.gate_box (t := 41) rfl ?_); refine Step.fresh (cs := #[.int .i64 k, .int .i64 fn, .int .i64 rd, .int .i64 n, .int .i64 m, .int .i64 imm, .int .i64 sz, .bool sg]) (T := 41) rfl ?hr ?_; (case hr => first | (go_simp; done) | (go_simp; rfl)); intro g1 w1 b hg hb; replace ST := Lib.hid (ST.out.made b hg hb); clear b hb; clear hg)
    | ((with_reducible refine Step.gate_load (t := 3) rfl ?_); refine Step.load ST.out.at0 rfl rfl rfl pl_int rfl ?_)
    | ((with_reducible refine Step.gate_load (t := 41) rfl ?_); refine Step.loadAll ST.out.at0 rfl rfl rfl Try.underlying41 rfl size_inst ?_))
  all_goals (go_ret; exact ⟨rfl, ST.out.below⟩)
set_option maxHeartbeats 8000000 in
theorem plan_6 {h h2 : Hrt} {a : Int} {n : Nat} (fn rd imm sz ln : Int) (sg : Bool) (hn : n < 32) (T0 : Hid (∀ w, Calls Try.prog 14 #[.agg (hc h)] w fun e w' => e = .returned (.agg (hc h2)) ∧ Below w.heap.size w w')) (m : Int) (T1 : Hid (∀ w, Calls Try.prog 15 #[.int .u32 a] w fun e w' => e = .returned (.tuple #[.agg #[.int .i64 6, .int .i64 fn, .int .i64 rd, .int .i64 (n : Nat), .int .i64 m, .int .i64 imm, .int .i64 sz, .bool sg], .bool true]) ∧ Below w.heap.size w w')) (w : World) : Calls Try.prog 5 #[.agg (hc h), .int .u32 a, .int .i64 ln] w fun e w' => e = .returned (.tuple #[.agg #[.bool false, .bool sg, .int .i64 sz, .int .i64 rd, .int .i64 ln, .int .u64 (IntKind.u64.wrap (h2.x n + IntKind.u64.wrap imm)), .int .u64 0], .bool true]) ∧ Below w.heap.size w w' := by
  have e8 : ((32 : Int) ≤ (n : Int)) = False := eq_false (by omega)
  have t2 := ta_ll
  go_enter Try.func5, Try.ntmps5
  have ST := Lib.hid (Kn.nil (S := Step.Nil) (W := w))
  go_wp2_with (first
    | ((with_reducible refine Calm.region_alloc (id := 3) (fin := ?fin_1) ?hm_1 14 13 10 ?o1_1 (.cells #[.bool false, .bool false, .int .i64 0, .int .i64 0, .int .i64 0, .int .u64 0, .int .u64 0] 30 (0, 0)) [(18, .pointer (some ⟨g3, 6, none⟩)), (19, .int .i64 sz), (20, .int .i64 ln), (21, .pointer (some ⟨g3, 3, none⟩)), (22, .int .i64 (n : Nat)), (23, .pointer (some ⟨g1, 0, none⟩)), (24, .pointer (some ⟨g1, n, none⟩)), (25, .int .u64 (h2.x n)), (26, .pointer (some ⟨g3, 5, none⟩)), (27, .int .i64 imm), (28, .int .u64 (IntKind.u64.wrap imm)), (29, .int .u64 (IntKind.u64.wrap (h2.x n + IntKind.u64.wrap imm))), (30, .agg #[.bool false, .bool false, .int .i64 sz, .int .i64 0, .int .i64 ln, .int .u64 (IntKind.u64.wrap (h2.x n + IntKind.u64.wrap imm)), .int .u64 0])] ?hp_1 ?hin_1 ?hsolo_1 ?hoa_1 (by decide) ?hda_1 ?hga_1 ?hrun_1 ?hfin_1 ?hcalm_1 ?_); (case hm_1 => rfl); (case hoa_1 => rfl); (case hp_1 => kernel_rfl); (case hin_1 => kernel_rfl); (case hsolo_1 => kernel_rfl); (case hda_1 => rfl); (case hga_1 => rfl); (case hrun_1 => exact alloc_run rfl zero_acc); (case hfin_1 => (simp only [Reg.puts, Act.put, List.setIfInBounds_toArray, List.set_cons_zero, List.set_cons_succ]; try rfl)); (case hcalm_1 => (simp only [List.take, List.eraseIdx]; (repeat' (first | exact Calm.calm_nil | refine Calm.calm_cons ?_ ?_)); all_goals (first | exact calm_load ST.out.at0 rfl rfl rfl pl_int rfl rfl | exact calm_load ST.out.at2 rfl rfl rfl pl_u64 (hc_x _ hn) rfl | exact calm_slot rfl rfl (fun X => by first | (go_simp; done) | (go_simp; rfl))))); intro g4 w1 hg hlt hb ho; have st_ := Lib.hid (ST.out.made ⟨ho⟩ hg hb); clear ST; have ST := st_; clear hg hlt hb ho; simp only [List.drop, Calm.ptr, Act.put, List.setIfInBounds_toArray, List.set_cons_zero, List.set_cons_succ])
    | ((with_reducible refine Sq.regionJ (id := 7) (J := fun j X => Kn Step.Nil w X [(g4, (match j with | 0 => #[.bool false, .bool false, .int .i64 sz, .int .i64 0, .int .i64 ln, .int .u64 (IntKind.u64.wrap (h2.x n + IntKind.u64.wrap imm)), .int .u64 0] | 1 => #[.bool false, .bool sg, .int .i64 sz, .int .i64 0, .int .i64 ln, .int .u64 (IntKind.u64.wrap (h2.x n + IntKind.u64.wrap imm)), .int .u64 0] | _ => #[.bool false, .bool sg, .int .i64 sz, .int .i64 rd, .int .i64 ln, .int .u64 (IntKind.u64.wrap (h2.x n + IntKind.u64.wrap imm)), .int .u64 0]), 30), (g3, #[.int .i64 6, .int .i64 fn, .int .i64 rd, .int .i64 n, .int .i64 m, .int .i64 imm, .int .i64 sz, .bool sg], 41), (g2, #[.bool false, .bool false, .int .i64 0, .int .i64 0, .int .i64 0, .int .u64 0, .int .u64 0], 30), (g1, hc h2, 25)]) ?hm1 8 [5, 7] [.keep 0 2, .keep 0 2, .keep 0 2, .keep 0 2, .keep 0 2, .eff 0, .keep 0 2, .eff 1] ?hi1 ?hp1 ?hf1 ?hs1); (case hm1 => rfl); (case hi1 => exact (Kn.drew (show Kn Step.Nil w _ [(g4, #[.bool false, .bool false, .int .i64 sz, .int .i64 0, .int .i64 ln, .int .u64 (IntKind.u64.wrap (h2.x n + IntKind.u64.wrap imm)), .int .u64 0], 30), (g3, #[.int .i64 6, .int .i64 fn, .int .i64 rd, .int .i64 n, .int .i64 m, .int .i64 imm, .int .i64 sz, .bool sg], 41), (g2, #[.bool false, .bool false, .int .i64 0, .int .i64 0, .int .i64 0, .int .u64 0, .int .u64 0], 30), (g1, hc h2, 25)] from ST.out))); (case hp1 => kernel_rfl); (case hf1 => kernel_rfl); intro ops K hops hK; clear hops; dsimp only [List.take]; (repeat (first | (refine Sq.seqJ_move rfl rfl ?_; simp only [Act.put, Act.eval, Array.getD_eq_getD_getElem?, List.getElem?_toArray, List.getElem?_cons_zero, List.getElem?_cons_succ, Option.getD_some, List.setIfInBounds_toArray, List.set_cons_zero, List.set_cons_succ]) | (refine Sq.seqJ_check rfl rfl rfl ?_; simp only [Act.put, Act.eval, Array.getD_eq_getD_getElem?, List.getElem?_toArray, List.getElem?_cons_zero, List.getElem?_cons_succ, Option.getD_some, List.setIfInBounds_toArray, List.set_cons_zero, List.set_cons_succ]) | (refine Sq.seqJ_cell (t := 22) (fun j _ _ X hX => ((Kn.at1 hX).cell _).trans rfl) (Sq.wanted_none rfl) rfl rfl pl_u64 ?_; simp only [Act.put, Act.eval, Array.getD_eq_getD_getElem?, List.getElem?_toArray, List.getElem?_cons_zero, List.getElem?_cons_succ, Option.getD_some, List.setIfInBounds_toArray, List.set_cons_zero, List.set_cons_succ]) | (refine Sq.seqJ_cell (t := 3) (fun j _ _ X hX => ((Kn.at1 hX).cell _).trans rfl) (Sq.wanted_none rfl) rfl rfl pl_int ?_; simp only [Act.put, Act.eval, Array.getD_eq_getD_getElem?, List.getElem?_toArray, List.getElem?_cons_zero, List.getElem?_cons_succ, Option.getD_some, List.setIfInBounds_toArray, List.set_cons_zero, List.set_cons_succ]) | (refine Sq.seqJ_cell (t := 4) (fun j _ _ X hX => ((Kn.at1 hX).cell _).trans rfl) (Sq.wanted_none rfl) rfl rfl pl_bool ?_; simp only [Act.put, Act.eval, Array.getD_eq_getD_getElem?, List.getElem?_toArray, List.getElem?_cons_zero, List.getElem?_cons_succ, Option.getD_some, List.setIfInBounds_toArray, List.set_cons_zero, List.set_cons_succ]) | (refine Sq.seqJ_store (t := 4) (cs := #[.bool false, .bool false, .int .i64 sz, .int .i64 0, .int .i64 ln, .int .u64 (IntKind.u64.wrap (h2.x n + IntKind.u64.wrap imm)), .int .u64 0]) (v := .bool sg) (fun X hX => Kn.at0 hX) rfl rfl rfl rfl rfl pl_bool rfl rfl (fun X X' hX nb m => ?_) ?_; · exact Kn.set0 hX (show Blk X' g4 #[.bool false, .bool sg, .int .i64 sz, .int .i64 0, .int .i64 ln, .int .u64 (IntKind.u64.wrap (h2.x n + IntKind.u64.wrap imm)), .int .u64 0] 30 from nb) m) | (refine Sq.seqJ_store (t := 3) (cs := #[.bool false, .bool sg, .int .i64 sz, .int .i64 0, .int .i64 ln, .int .u64 (IntKind.u64.wrap (h2.x n + IntKind.u64.wrap imm)), .int .u64 0]) (v := .int .i64 rd) (fun X hX => Kn.at0 hX) rfl rfl rfl rfl rfl pl_int rfl rfl (fun X X' hX nb m => ?_) ?_; · exact Kn.set0 hX (show Blk X' g4 #[.bool false, .bool sg, .int .i64 sz, .int .i64 rd, .int .i64 ln, .int .u64 (IntKind.u64.wrap (h2.x n + IntKind.u64.wrap imm)), .int .u64 0] 30 from nb) m) | (refine' Sq.seqJ_pure rfl (fun X => _) _; rotate_left; (first | (go_simp; done) | (go_simp; rfl)); simp only [Act.put, Act.eval, Array.getD_eq_getD_getElem?, List.getElem?_toArray, List.getElem?_cons_zero, List.getElem?_cons_succ, Option.getD_some, List.setIfInBounds_toArray, List.set_cons_zero, List.set_cons_succ]))); refine Sq.seqJ_nil ?_; refine hK.out _ fun w1 hk => ?_; clear hK; replace ST := Lib.hid (show Kn Step.Nil w w1 [(g4, #[.bool false, .bool sg, .int .i64 sz, .int .i64 rd, .int .i64 ln, .int .u64 (IntKind.u64.wrap (h2.x n + IntKind.u64.wrap imm)), .int .u64 0], 30), (g3, #[.int .i64 6, .int .i64 fn, .int .i64 rd, .int .i64 n, .int .i64 m, .int .i64 imm, .int .i64 sz, .bool sg], 41), (g2, #[.bool false, .bool false, .int .i64 0, .int .i64 0, .int .i64 0, .int .u64 0, .int .u64 0], 30), (g1, hc h2, 25)] from hk); clear hk; dsimp only [List.drop])
    | (go_at_call 16; (with_reducible refine (what_load _ _ _ _ _ _ _ _).mono ?_); rintro e w' ⟨rfl, hb⟩; replace ST := Lib.hid (ST.out.call hb); clear hb)
    | (go_at_call 14; (with_reducible refine (T0.out _).mono ?_); rintro e w' ⟨rfl, hb⟩; replace ST := Lib.hid (ST.out.call hb); clear hb)
    | (go_at_call 15; (with_reducible refine (T1.out _).mono ?_); rintro e w' ⟨rfl, hb⟩; replace ST := Lib.hid (ST.out.call hb); clear hb)
    | ((with_reducible refine Step.gate_box (t := 25) rfl ?_); refine Step.fresh (cs := hc h) (T := 25) rfl ?hr ?_; (case hr => first | (go_simp; done) | (go_simp; rfl)); intro g1 w1 b hg hb; replace ST := Lib.hid (ST.out.made b hg hb); clear b hb; clear hg)
    | ((with_reducible refine Step.gate_alloc (t := 30) rfl ?_); refine Step.freshAlloc rfl rfl (alloc_agg zero_acc) ?_; intro g2 w2 b hg hb; replace ST := Lib.hid (ST.out.made b hg hb); clear b hb; clear hg)
    | ((with_reducible refine Step.gate_alloc (t := 41) rfl ?_); refine Step.freshAlloc rfl rfl (alloc_agg zero_inst) ?_; intro g3 w2 b hg hb; replace ST := Lib.hid (ST.out.made b hg hb); clear b hb; clear hg)
    | ((with_reducible refine Step.gate_store (t := 25) rfl ?_); refine Step.storeAll ST.out.at1 rfl rfl rfl rfl rfl (size_hart _) rfl (hc_all _) ?_; intro w3 nb m; replace ST := Lib.hid (ST.out.set1 nb m); clear nb m)
    | ((with_reducible refine Step.gate_load (t := 25) rfl ?_); refine Step.loadAll ST.out.at1 rfl rfl rfl Try.underlying25 rfl (size_hart _) ?_)
    | ((with_reducible refine Step.gate_store (t := 41) rfl ?_); refine Step.storeAll ST.out.at0 rfl rfl rfl rfl rfl size_inst rfl rfl ?_; intro w3 nb m; replace ST := Lib.hid (ST.out.set0 nb m); clear nb m)
    | ((with_reducible refine Step.gate_load (t := 41) rfl ?_); refine Step.loadAll ST.out.at1 rfl rfl rfl Try.underlying41 rfl size_inst ?_)
    | ((with_reducible refine Step.gate_store (t := 30) rfl ?_); refine Step.storeAll ST.out.at0 rfl rfl rfl rfl rfl size_acc rfl rfl ?_; intro w3 nb m; replace ST := Lib.hid (ST.out.set0 nb m); clear nb m)
    | ((with_reducible refine Step.gate_load (t := 30) rfl ?_); refine Step.loadAll ST.out.at0 rfl rfl rfl Try.underlying30 rfl size_acc ?_)
    | ((with_reducible refine Step.gate_store (t := 30) rfl ?_); refine Step.storeAll ST.out.at2 rfl rfl rfl rfl rfl size_acc rfl rfl ?_; intro w3 nb m; replace ST := Lib.hid (ST.out.set2 nb m); clear nb m)
    | ((with_reducible refine Step.gate_store (t := 30) rfl ?_); refine Step.storeAll ST.out.at1 rfl rfl rfl rfl rfl size_acc rfl rfl ?_; intro w3 nb m; replace ST := Lib.hid (ST.out.set1 nb m); clear nb m)
    | ((with_reducible refine Step.gate_load (t := 22) rfl ?_); refine Step.load ST.out.at1 rfl rfl rfl pl_u64 rfl ?_)
    | ((with_reducible refine Step.gate_load (t := 3) rfl ?_); refine Step.load ST.out.at1 rfl rfl rfl pl_int rfl ?_)
    | ((with_reducible refine Step.gate_load (t := 4) rfl ?_); refine Step.load ST.out.at1 rfl rfl rfl pl_bool rfl ?_)
    | ((with_reducible refine Step.gate_load (t := 22) rfl ?_); refine Step.loadG ST.out.at1 rfl rfl rfl pl_u64 rfl ?_)
    | ((with_reducible refine Step.gate_load (t := 3) rfl ?_); refine Step.loadG ST.out.at1 rfl rfl rfl pl_int rfl ?_)
    | ((with_reducible refine Step.gate_load (t := 4) rfl ?_); refine Step.loadG ST.out.at1 rfl rfl rfl pl_bool rfl ?_)
    | ((with_reducible refine Step.gate_load (t := 22) rfl ?_); refine Step.load ST.out.at0 rfl rfl rfl pl_u64 rfl ?_)
    | ((with_reducible refine Step.gate_load (t := 3) rfl ?_); refine Step.load ST.out.at0 rfl rfl rfl pl_int rfl ?_)
    | ((with_reducible refine Step.gate_load (t := 4) rfl ?_); refine Step.load ST.out.at0 rfl rfl rfl pl_bool rfl ?_)
    | ((with_reducible refine Step.gate_load (t := 22) rfl ?_); refine Step.loadG ST.out.at0 rfl rfl rfl pl_u64 rfl ?_)
    | ((with_reducible refine Step.gate_load (t := 3) rfl ?_); refine Step.loadG ST.out.at0 rfl rfl rfl pl_int rfl ?_)
    | ((with_reducible refine Step.gate_load (t := 4) rfl ?_); refine Step.loadG ST.out.at0 rfl rfl rfl pl_bool rfl ?_)
    | ((with_reducible refine Step.gate_store (t := 22) rfl ?_); refine Step.store ST.out.at0 rfl rfl rfl rfl rfl pl_u64 rfl rfl ?_; intro w3 nb m; replace ST := Lib.hid (ST.out.set0 nb m); clear nb m)
    | ((with_reducible refine Step.gate_store (t := 3) rfl ?_); refine Step.store ST.out.at0 rfl rfl rfl rfl rfl pl_int rfl rfl ?_; intro w3 nb m; replace ST := Lib.hid (ST.out.set0 nb m); clear nb m)
    | ((with_reducible refine Step.gate_store (t := 4) rfl ?_); refine Step.store ST.out.at0 rfl rfl rfl rfl rfl pl_bool rfl rfl ?_; intro w3 nb m; replace ST := Lib.hid (ST.out.set0 nb m); clear nb m))
  all_goals (refine bodyPost_ret (results_row_tmp rfl _ _ _ _ _ _ rfl ST.out.at2 Try.underlying30 rfl size_acc) rfl ⟨rfl, ST.out.below⟩)
set_option maxHeartbeats 8000000 in
theorem plan_7 {h h2 : Hrt} {a : Int} {n : Nat} (fn rd imm sz ln : Int) (sg : Bool) (hn : n < 32) (T0 : Hid (∀ w, Calls Try.prog 14 #[.agg (hc h)] w fun e w' => e = .returned (.agg (hc h2)) ∧ Below w.heap.size w w')) {u : Int} {m : Nat} (hm : m < 32) (TE : Hid (∀ w, Calls Try.prog 17 #[.int .u64 (h2.x m), .int .i64 sz, .bool false] w fun e w' => e = .returned (.int .u64 u) ∧ Below w.heap.size w w')) (T1 : Hid (∀ w, Calls Try.prog 15 #[.int .u32 a] w fun e w' => e = .returned (.tuple #[.agg #[.int .i64 7, .int .i64 fn, .int .i64 rd, .int .i64 (n : Nat), .int .i64 (m : Nat), .int .i64 imm, .int .i64 sz, .bool sg], .bool true]) ∧ Below w.heap.size w w')) (w : World) : Calls Try.prog 5 #[.agg (hc h), .int .u32 a, .int .i64 ln] w fun e w' => e = .returned (.tuple #[.agg #[.bool true, .bool false, .int .i64 sz, .int .i64 0, .int .i64 ln, .int .u64 (IntKind.u64.wrap (h2.x n + IntKind.u64.wrap imm)), .int .u64 u], .bool true]) ∧ Below w.heap.size w w' := by
  have e8 : ((32 : Int) ≤ (n : Int)) = False := eq_false (by omega)
  have e9 : ((32 : Int) ≤ (m : Int)) = False := eq_false (by omega)
  have t2 := ta_ss
  have t3 := ta_sl
  go_enter Try.func5, Try.ntmps5
  have ST := Lib.hid (Kn.nil (S := Step.Nil) (W := w))
  go_wp2_with (first
    | ((with_reducible refine Calm.region_alloc (id := 3) (fin := ?fin_2) ?hm_2 14 13 10 ?o1_2 (.cells #[.bool false, .bool false, .int .i64 0, .int .i64 0, .int .i64 0, .int .u64 0, .int .u64 0] 30 (0, 0)) [(18, .pointer (some ⟨g3, 6, none⟩)), (19, .int .i64 sz), (20, .int .i64 ln), (21, .pointer (some ⟨g3, 3, none⟩)), (22, .int .i64 (n : Nat)), (23, .pointer (some ⟨g1, 0, none⟩)), (24, .pointer (some ⟨g1, n, none⟩)), (25, .int .u64 (h2.x n)), (26, .pointer (some ⟨g3, 5, none⟩)), (27, .int .i64 imm), (28, .int .u64 (IntKind.u64.wrap imm)), (29, .int .u64 (IntKind.u64.wrap (h2.x n + IntKind.u64.wrap imm))), (30, .agg #[.bool false, .bool false, .int .i64 sz, .int .i64 0, .int .i64 ln, .int .u64 (IntKind.u64.wrap (h2.x n + IntKind.u64.wrap imm)), .int .u64 0])] ?hp_2 ?hin_2 ?hsolo_2 ?hoa_2 (by decide) ?hda_2 ?hga_2 ?hrun_2 ?hfin_2 ?hcalm_2 ?_); (case hm_2 => rfl); (case hoa_2 => rfl); (case hp_2 => kernel_rfl); (case hin_2 => kernel_rfl); (case hsolo_2 => kernel_rfl); (case hda_2 => rfl); (case hga_2 => rfl); (case hrun_2 => exact alloc_run rfl zero_acc); (case hfin_2 => (simp only [Reg.puts, Act.put, List.setIfInBounds_toArray, List.set_cons_zero, List.set_cons_succ]; try rfl)); (case hcalm_2 => (simp only [List.take, List.eraseIdx]; (repeat' (first | exact Calm.calm_nil | refine Calm.calm_cons ?_ ?_)); all_goals (first | exact calm_load ST.out.at0 rfl rfl rfl pl_int rfl rfl | exact calm_load ST.out.at2 rfl rfl rfl pl_u64 (hc_x _ hn) rfl | exact calm_slot rfl rfl (fun X => by first | (go_simp; done) | (go_simp; rfl))))); intro g4 w1 hg hlt hb ho; have st_ := Lib.hid (ST.out.made ⟨ho⟩ hg hb); clear ST; have ST := st_; clear hg hlt hb ho; simp only [List.drop, Calm.ptr, Act.put, List.setIfInBounds_toArray, List.set_cons_zero, List.set_cons_succ])
    | ((with_reducible refine Sq.regionJ (id := 9) (J := fun j X => Kn Step.Nil w X [(g4, (match j with | 0 => #[.bool false, .bool false, .int .i64 sz, .int .i64 0, .int .i64 ln, .int .u64 (IntKind.u64.wrap (h2.x n + IntKind.u64.wrap imm)), .int .u64 0] | 1 => #[.bool true, .bool false, .int .i64 sz, .int .i64 0, .int .i64 ln, .int .u64 (IntKind.u64.wrap (h2.x n + IntKind.u64.wrap imm)), .int .u64 0] | _ => #[.bool true, .bool false, .int .i64 sz, .int .i64 0, .int .i64 ln, .int .u64 (IntKind.u64.wrap (h2.x n + IntKind.u64.wrap imm)), .int .u64 u]), 30), (g3, #[.int .i64 7, .int .i64 fn, .int .i64 rd, .int .i64 n, .int .i64 (m : Nat), .int .i64 imm, .int .i64 sz, .bool sg], 41), (g2, #[.bool false, .bool false, .int .i64 0, .int .i64 0, .int .i64 0, .int .u64 0, .int .u64 0], 30), (g1, hc h2, 25)]) ?hm2 12 [9, 11] [.keep 0 2, .keep 0 2, .keep 0 2, .keep 0 2, .keep 0 2, .keep 0 2, .keep 0 2, .keep 0 2, .keep 0 2, .eff 0, .keep 0 2, .eff 1] ?hi2 ?hp2 ?hf2 ?hs2); (case hm2 => rfl); (case hi2 => exact (Kn.drew (show Kn Step.Nil w _ [(g4, #[.bool false, .bool false, .int .i64 sz, .int .i64 0, .int .i64 ln, .int .u64 (IntKind.u64.wrap (h2.x n + IntKind.u64.wrap imm)), .int .u64 0], 30), (g3, #[.int .i64 7, .int .i64 fn, .int .i64 rd, .int .i64 n, .int .i64 (m : Nat), .int .i64 imm, .int .i64 sz, .bool sg], 41), (g2, #[.bool false, .bool false, .int .i64 0, .int .i64 0, .int .i64 0, .int .u64 0, .int .u64 0], 30), (g1, hc h2, 25)] from ST.out))); (case hp2 => kernel_rfl); (case hf2 => kernel_rfl); intro ops K hops hK; clear hops; dsimp only [List.take]; (repeat (first | (refine Sq.seqJ_move rfl rfl ?_; simp only [Act.put, Act.eval, Array.getD_eq_getD_getElem?, List.getElem?_toArray, List.getElem?_cons_zero, List.getElem?_cons_succ, Option.getD_some, List.setIfInBounds_toArray, List.set_cons_zero, List.set_cons_succ]) | (refine Sq.seqJ_check rfl rfl rfl ?_; simp only [Act.put, Act.eval, Array.getD_eq_getD_getElem?, List.getElem?_toArray, List.getElem?_cons_zero, List.getElem?_cons_succ, Option.getD_some, List.setIfInBounds_toArray, List.set_cons_zero, List.set_cons_succ]) | (refine Sq.seqJ_pure (v := .pointer (some ⟨g1, m, none⟩)) rfl (fun X => by first | (go_simp; done) | (go_simp; intro hge; exfalso; omega)) ?_; simp only [Act.put, Act.eval, Array.getD_eq_getD_getElem?, List.getElem?_toArray, List.getElem?_cons_zero, List.getElem?_cons_succ, Option.getD_some, List.setIfInBounds_toArray, List.set_cons_zero, List.set_cons_succ]) | (refine Sq.seqJ_cell (t := 22) (fun j _ _ X hX => ((Kn.at1 hX).cell _).trans rfl) (Sq.wanted_none rfl) rfl rfl pl_u64 ?_; simp only [Act.put, Act.eval, Array.getD_eq_getD_getElem?, List.getElem?_toArray, List.getElem?_cons_zero, List.getElem?_cons_succ, Option.getD_some, List.setIfInBounds_toArray, List.set_cons_zero, List.set_cons_succ]) | (refine Sq.seqJ_cell (t := 3) (fun j _ _ X hX => ((Kn.at1 hX).cell _).trans rfl) (Sq.wanted_none rfl) rfl rfl pl_int ?_; simp only [Act.put, Act.eval, Array.getD_eq_getD_getElem?, List.getElem?_toArray, List.getElem?_cons_zero, List.getElem?_cons_succ, Option.getD_some, List.setIfInBounds_toArray, List.set_cons_zero, List.set_cons_succ]) | (refine Sq.seqJ_cell (t := 4) (fun j _ _ X hX => ((Kn.at1 hX).cell _).trans rfl) (Sq.wanted_none rfl) rfl rfl pl_bool ?_; simp only [Act.put, Act.eval, Array.getD_eq_getD_getElem?, List.getElem?_toArray, List.getElem?_cons_zero, List.getElem?_cons_succ, Option.getD_some, List.setIfInBounds_toArray, List.set_cons_zero, List.set_cons_succ]) | (refine Sq.seqJ_cell (t := 22) (fun j _ _ X hX => ((Kn.at3 hX).cell _).trans (hc_x _ hm)) (Sq.wanted_none rfl) rfl rfl pl_u64 ?_; simp only [Act.put, Act.eval, Array.getD_eq_getD_getElem?, List.getElem?_toArray, List.getElem?_cons_zero, List.getElem?_cons_succ, Option.getD_some, List.setIfInBounds_toArray, List.set_cons_zero, List.set_cons_succ]) | (refine Sq.seqJ_call 17 rfl (Sq.wanted_none rfl) (fun X => ?_) (fun j _ _ X hX => (TE.out X).mono fun e w' h => ⟨h.1, Kn.call hX h.2⟩) ?_; (focus (first | (go_simp; done) | (go_simp; rfl))); simp only [Act.put, Act.eval, Array.getD_eq_getD_getElem?, List.getElem?_toArray, List.getElem?_cons_zero, List.getElem?_cons_succ, Option.getD_some, List.setIfInBounds_toArray, List.set_cons_zero, List.set_cons_succ]) | (refine Sq.seqJ_store (t := 4) (cs := #[.bool false, .bool false, .int .i64 sz, .int .i64 0, .int .i64 ln, .int .u64 (IntKind.u64.wrap (h2.x n + IntKind.u64.wrap imm)), .int .u64 0]) (v := .bool true) (fun X hX => Kn.at0 hX) rfl rfl rfl rfl rfl pl_bool rfl rfl (fun X X' hX nb m => ?_) ?_; · exact Kn.set0 hX (show Blk X' g4 #[.bool true, .bool false, .int .i64 sz, .int .i64 0, .int .i64 ln, .int .u64 (IntKind.u64.wrap (h2.x n + IntKind.u64.wrap imm)), .int .u64 0] 30 from nb) m) | (refine Sq.seqJ_store (t := 22) (cs := #[.bool true, .bool false, .int .i64 sz, .int .i64 0, .int .i64 ln, .int .u64 (IntKind.u64.wrap (h2.x n + IntKind.u64.wrap imm)), .int .u64 0]) (v := .int .u64 u) (fun X hX => Kn.at0 hX) rfl rfl rfl rfl rfl pl_u64 rfl rfl (fun X X' hX nb m => ?_) ?_; · exact Kn.set0 hX (show Blk X' g4 #[.bool true, .bool false, .int .i64 sz, .int .i64 0, .int .i64 ln, .int .u64 (IntKind.u64.wrap (h2.x n + IntKind.u64.wrap imm)), .int .u64 u] 30 from nb) m) | (refine' Sq.seqJ_pure rfl (fun X => _) _; rotate_left; (first | (go_simp; done) | (go_simp; rfl)); simp only [Act.put, Act.eval, Array.getD_eq_getD_getElem?, List.getElem?_toArray, List.getElem?_cons_zero, List.getElem?_cons_succ, Option.getD_some, List.setIfInBounds_toArray, List.set_cons_zero, List.set_cons_succ]))); refine Sq.seqJ_nil ?_; refine hK.out _ fun w1 hk => ?_; clear hK; replace ST := Lib.hid (show Kn Step.Nil w w1 [(g4, #[.bool true, .bool false, .int .i64 sz, .int .i64 0, .int .i64 ln, .int .u64 (IntKind.u64.wrap (h2.x n + IntKind.u64.wrap imm)), .int .u64 u], 30), (g3, #[.int .i64 7, .int .i64 fn, .int .i64 rd, .int .i64 n, .int .i64 (m : Nat), .int .i64 imm, .int .i64 sz, .bool sg], 41), (g2, #[.bool false, .bool false, .int .i64 0, .int .i64 0, .int .i64 0, .int .u64 0, .int .u64 0], 30), (g1, hc h2, 25)] from hk); clear hk; dsimp only [List.drop])
    | (go_at_call 16; (with_reducible refine (what_store _ _ _ _ _ _ _ _).mono ?_); rintro e w' ⟨rfl, hb⟩; replace ST := Lib.hid (ST.out.call hb); clear hb)
    | (go_at_call 14; (with_reducible refine (T0.out _).mono ?_); rintro e w' ⟨rfl, hb⟩; replace ST := Lib.hid (ST.out.call hb); clear hb)
    | (go_at_call 15; (with_reducible refine (T1.out _).mono ?_); rintro e w' ⟨rfl, hb⟩; replace ST := Lib.hid (ST.out.call hb); clear hb)
    | ((with_reducible refine Step.gate_box (t := 25) rfl ?_); refine Step.fresh (cs := hc h) (T := 25) rfl ?hr ?_; (case hr => first | (go_simp; done) | (go_simp; rfl)); intro g1 w1 b hg hb; replace ST := Lib.hid (ST.out.made b hg hb); clear b hb; clear hg)
    | ((with_reducible refine Step.gate_alloc (t := 30) rfl ?_); refine Step.freshAlloc rfl rfl (alloc_agg zero_acc) ?_; intro g2 w2 b hg hb; replace ST := Lib.hid (ST.out.made b hg hb); clear b hb; clear hg)
    | ((with_reducible refine Step.gate_alloc (t := 41) rfl ?_); refine Step.freshAlloc rfl rfl (alloc_agg zero_inst) ?_; intro g3 w2 b hg hb; replace ST := Lib.hid (ST.out.made b hg hb); clear b hb; clear hg)
    | ((with_reducible refine Step.gate_store (t := 25) rfl ?_); refine Step.storeAll ST.out.at1 rfl rfl rfl rfl rfl (size_hart _) rfl (hc_all _) ?_; intro w3 nb m; replace ST := Lib.hid (ST.out.set1 nb m); clear nb m)
    | ((with_reducible refine Step.gate_load (t := 25) rfl ?_); refine Step.loadAll ST.out.at1 rfl rfl rfl Try.underlying25 rfl (size_hart _) ?_)
    | ((with_reducible refine Step.gate_store (t := 41) rfl ?_); refine Step.storeAll ST.out.at0 rfl rfl rfl rfl rfl size_inst rfl rfl ?_; intro w3 nb m; replace ST := Lib.hid (ST.out.set0 nb m); clear nb m)
    | ((with_reducible refine Step.gate_load (t := 41) rfl ?_); refine Step.loadAll ST.out.at1 rfl rfl rfl Try.underlying41 rfl size_inst ?_)
    | ((with_reducible refine Step.gate_store (t := 30) rfl ?_); refine Step.storeAll ST.out.at0 rfl rfl rfl rfl rfl size_acc rfl rfl ?_; intro w3 nb m; replace ST := Lib.hid (ST.out.set0 nb m); clear nb m)
    | ((with_reducible refine Step.gate_load (t := 30) rfl ?_); refine Step.loadAll ST.out.at0 rfl rfl rfl Try.underlying30 rfl size_acc ?_)
    | ((with_reducible refine Step.gate_store (t := 30) rfl ?_); refine Step.storeAll ST.out.at2 rfl rfl rfl rfl rfl size_acc rfl rfl ?_; intro w3 nb m; replace ST := Lib.hid (ST.out.set2 nb m); clear nb m)
    | ((with_reducible refine Step.gate_store (t := 30) rfl ?_); refine Step.storeAll ST.out.at1 rfl rfl rfl rfl rfl size_acc rfl rfl ?_; intro w3 nb m; replace ST := Lib.hid (ST.out.set1 nb m); clear nb m)
    | ((with_reducible refine Step.gate_load (t := 22) rfl ?_); refine Step.load ST.out.at1 rfl rfl rfl pl_u64 rfl ?_)
    | ((with_reducible refine Step.gate_load (t := 3) rfl ?_); refine Step.load ST.out.at1 rfl rfl rfl pl_int rfl ?_)
    | ((with_reducible refine Step.gate_load (t := 4) rfl ?_); refine Step.load ST.out.at1 rfl rfl rfl pl_bool rfl ?_)
    | ((with_reducible refine Step.gate_load (t := 22) rfl ?_); refine Step.loadG ST.out.at1 rfl rfl rfl pl_u64 rfl ?_)
    | ((with_reducible refine Step.gate_load (t := 3) rfl ?_); refine Step.loadG ST.out.at1 rfl rfl rfl pl_int rfl ?_)
    | ((with_reducible refine Step.gate_load (t := 4) rfl ?_); refine Step.loadG ST.out.at1 rfl rfl rfl pl_bool rfl ?_)
    | ((with_reducible refine Step.gate_load (t := 22) rfl ?_); refine Step.load ST.out.at0 rfl rfl rfl pl_u64 rfl ?_)
    | ((with_reducible refine Step.gate_load (t := 3) rfl ?_); refine Step.load ST.out.at0 rfl rfl rfl pl_int rfl ?_)
    | ((with_reducible refine Step.gate_load (t := 4) rfl ?_); refine Step.load ST.out.at0 rfl rfl rfl pl_bool rfl ?_)
    | ((with_reducible refine Step.gate_load (t := 22) rfl ?_); refine Step.loadG ST.out.at0 rfl rfl rfl pl_u64 rfl ?_)
    | ((with_reducible refine Step.gate_load (t := 3) rfl ?_); refine Step.loadG ST.out.at0 rfl rfl rfl pl_int rfl ?_)
    | ((with_reducible refine Step.gate_load (t := 4) rfl ?_); refine Step.loadG ST.out.at0 rfl rfl rfl pl_bool rfl ?_)
    | ((with_reducible refine Step.gate_store (t := 22) rfl ?_); refine Step.store ST.out.at0 rfl rfl rfl rfl rfl pl_u64 rfl rfl ?_; intro w3 nb m; replace ST := Lib.hid (ST.out.set0 nb m); clear nb m)
    | ((with_reducible refine Step.gate_store (t := 3) rfl ?_); refine Step.store ST.out.at0 rfl rfl rfl rfl rfl pl_int rfl rfl ?_; intro w3 nb m; replace ST := Lib.hid (ST.out.set0 nb m); clear nb m)
    | ((with_reducible refine Step.gate_store (t := 4) rfl ?_); refine Step.store ST.out.at0 rfl rfl rfl rfl rfl pl_bool rfl rfl ?_; intro w3 nb m; replace ST := Lib.hid (ST.out.set0 nb m); clear nb m))
  all_goals (refine bodyPost_ret (results_row_tmp rfl _ _ _ _ _ _ rfl ST.out.at2 Try.underlying30 rfl size_acc) rfl ⟨rfl, ST.out.below⟩)
set_option maxHeartbeats 8000000 in
theorem plan_no {h h2 : Hrt} {a : Int} {n : Nat} (fn rd imm sz ln : Int) (sg : Bool) (hn : n < 32) (T0 : Hid (∀ w, Calls Try.prog 14 #[.agg (hc h)] w fun e w' => e = .returned (.agg (hc h2)) ∧ Below w.heap.size w w')) (m k : Int) (n6 : k ≠ 6) (n7 : k ≠ 7) (ok : Bool) (T1 : Hid (∀ w, Calls Try.prog 15 #[.int .u32 a] w fun e w' => e = .returned (.tuple #[.agg #[.int .i64 k, .int .i64 fn, .int .i64 rd, .int .i64 (n : Nat), .int .i64 m, .int .i64 imm, .int .i64 sz, .bool sg], .bool ok]) ∧ Below w.heap.size w w')) (w : World) : Calls Try.prog 5 #[.agg (hc h), .int .u32 a, .int .i64 ln] w fun e w' => e = .returned (.tuple #[.agg #[.bool false, .bool false, .int .i64 0, .int .i64 0, .int .i64 0, .int .u64 0, .int .u64 0], .bool false]) ∧ Below w.heap.size w w' := by
  have e8 : ((32 : Int) ≤ (n : Int)) = False := eq_false (by omega)
  have t2 := ta_nl
  have t3 := ta_ns
  go_enter Try.func5, Try.ntmps5
  have ST := Lib.hid (Kn.nil (S := Step.Nil) (W := w))
  go_wp2_with (first
    | ((with_reducible refine Calm.region_alloc (id := 3) (fin := ?fin_3) ?hm_3 14 13 10 ?o1_3 (.cells #[.bool false, .bool false, .int .i64 0, .int .i64 0, .int .i64 0, .int .u64 0, .int .u64 0] 30 (0, 0)) [(18, .pointer (some ⟨g3, 6, none⟩)), (19, .int .i64 sz), (20, .int .i64 ln), (21, .pointer (some ⟨g3, 3, none⟩)), (22, .int .i64 (n : Nat)), (23, .pointer (some ⟨g1, 0, none⟩)), (24, .pointer (some ⟨g1, n, none⟩)), (25, .int .u64 (h2.x n)), (26, .pointer (some ⟨g3, 5, none⟩)), (27, .int .i64 imm), (28, .int .u64 (IntKind.u64.wrap imm)), (29, .int .u64 (IntKind.u64.wrap (h2.x n + IntKind.u64.wrap imm))), (30, .agg #[.bool false, .bool false, .int .i64 sz, .int .i64 0, .int .i64 ln, .int .u64 (IntKind.u64.wrap (h2.x n + IntKind.u64.wrap imm)), .int .u64 0])] ?hp_3 ?hin_3 ?hsolo_3 ?hoa_3 (by decide) ?hda_3 ?hga_3 ?hrun_3 ?hfin_3 ?hcalm_3 ?_); (case hm_3 => rfl); (case hoa_3 => rfl); (case hp_3 => kernel_rfl); (case hin_3 => kernel_rfl); (case hsolo_3 => kernel_rfl); (case hda_3 => rfl); (case hga_3 => rfl); (case hrun_3 => exact alloc_run rfl zero_acc); (case hfin_3 => (simp only [Reg.puts, Act.put, List.setIfInBounds_toArray, List.set_cons_zero, List.set_cons_succ]; try rfl)); (case hcalm_3 => (simp only [List.take, List.eraseIdx]; (repeat' (first | exact Calm.calm_nil | refine Calm.calm_cons ?_ ?_)); all_goals (first | exact calm_load ST.out.at0 rfl rfl rfl pl_int rfl rfl | exact calm_load ST.out.at2 rfl rfl rfl pl_u64 (hc_x _ hn) rfl | exact calm_slot rfl rfl (fun X => by first | (go_simp; done) | (go_simp; rfl))))); intro g4 w1 hg hlt hb ho; have st_ := Lib.hid (ST.out.made ⟨ho⟩ hg hb); clear ST; have ST := st_; clear hg hlt hb ho; simp only [List.drop, Calm.ptr, Act.put, List.setIfInBounds_toArray, List.set_cons_zero, List.set_cons_succ])
    | (go_at_call 16; (with_reducible refine (what_no _ _ _ _ _ _ _ _ n6 n7 _).mono ?_); rintro e w' ⟨rfl, hb⟩; replace ST := Lib.hid (ST.out.call hb); clear hb)
    | (go_at_call 14; (with_reducible refine (T0.out _).mono ?_); rintro e w' ⟨rfl, hb⟩; replace ST := Lib.hid (ST.out.call hb); clear hb)
    | (go_at_call 15; (with_reducible refine (T1.out _).mono ?_); rintro e w' ⟨rfl, hb⟩; replace ST := Lib.hid (ST.out.call hb); clear hb)
    | ((with_reducible refine Step.gate_box (t := 25) rfl ?_); refine Step.fresh (cs := hc h) (T := 25) rfl ?hr ?_; (case hr => first | (go_simp; done) | (go_simp; rfl)); intro g1 w1 b hg hb; replace ST := Lib.hid (ST.out.made b hg hb); clear b hb; clear hg)
    | ((with_reducible refine Step.gate_alloc (t := 30) rfl ?_); refine Step.freshAlloc rfl rfl (alloc_agg zero_acc) ?_; intro g2 w2 b hg hb; replace ST := Lib.hid (ST.out.made b hg hb); clear b hb; clear hg)
    | ((with_reducible refine Step.gate_alloc (t := 41) rfl ?_); refine Step.freshAlloc rfl rfl (alloc_agg zero_inst) ?_; intro g3 w2 b hg hb; replace ST := Lib.hid (ST.out.made b hg hb); clear b hb; clear hg)
    | ((with_reducible refine Step.gate_store (t := 25) rfl ?_); refine Step.storeAll ST.out.at1 rfl rfl rfl rfl rfl (size_hart _) rfl (hc_all _) ?_; intro w3 nb m; replace ST := Lib.hid (ST.out.set1 nb m); clear nb m)
    | ((with_reducible refine Step.gate_load (t := 25) rfl ?_); refine Step.loadAll ST.out.at1 rfl rfl rfl Try.underlying25 rfl (size_hart _) ?_)
    | ((with_reducible refine Step.gate_store (t := 41) rfl ?_); refine Step.storeAll ST.out.at0 rfl rfl rfl rfl rfl size_inst rfl rfl ?_; intro w3 nb m; replace ST := Lib.hid (ST.out.set0 nb m); clear nb m)
    | ((with_reducible refine Step.gate_load (t := 41) rfl ?_); refine Step.loadAll ST.out.at1 rfl rfl rfl Try.underlying41 rfl size_inst ?_)
    | ((with_reducible refine Step.gate_store (t := 30) rfl ?_); refine Step.storeAll ST.out.at0 rfl rfl rfl rfl rfl size_acc rfl rfl ?_; intro w3 nb m; replace ST := Lib.hid (ST.out.set0 nb m); clear nb m)
    | ((with_reducible refine Step.gate_load (t := 30) rfl ?_); refine Step.loadAll ST.out.at0 rfl rfl rfl Try.underlying30 rfl size_acc ?_)
    | ((with_reducible refine Step.gate_store (t := 30) rfl ?_); refine Step.storeAll ST.out.at2 rfl rfl rfl rfl rfl size_acc rfl rfl ?_; intro w3 nb m; replace ST := Lib.hid (ST.out.set2 nb m); clear nb m)
    | ((with_reducible refine Step.gate_store (t := 30) rfl ?_); refine Step.storeAll ST.out.at1 rfl rfl rfl rfl rfl size_acc rfl rfl ?_; intro w3 nb m; replace ST := Lib.hid (ST.out.set1 nb m); clear nb m)
    | ((with_reducible refine Step.gate_load (t := 22) rfl ?_); refine Step.load ST.out.at1 rfl rfl rfl pl_u64 rfl ?_)
    | ((with_reducible refine Step.gate_load (t := 3) rfl ?_); refine Step.load ST.out.at1 rfl rfl rfl pl_int rfl ?_)
    | ((with_reducible refine Step.gate_load (t := 4) rfl ?_); refine Step.load ST.out.at1 rfl rfl rfl pl_bool rfl ?_)
    | ((with_reducible refine Step.gate_load (t := 22) rfl ?_); refine Step.loadG ST.out.at1 rfl rfl rfl pl_u64 rfl ?_)
    | ((with_reducible refine Step.gate_load (t := 3) rfl ?_); refine Step.loadG ST.out.at1 rfl rfl rfl pl_int rfl ?_)
    | ((with_reducible refine Step.gate_load (t := 4) rfl ?_); refine Step.loadG ST.out.at1 rfl rfl rfl pl_bool rfl ?_)
    | ((with_reducible refine Step.gate_load (t := 22) rfl ?_); refine Step.load ST.out.at0 rfl rfl rfl pl_u64 rfl ?_)
    | ((with_reducible refine Step.gate_load (t := 3) rfl ?_); refine Step.load ST.out.at0 rfl rfl rfl pl_int rfl ?_)
    | ((with_reducible refine Step.gate_load (t := 4) rfl ?_); refine Step.load ST.out.at0 rfl rfl rfl pl_bool rfl ?_)
    | ((with_reducible refine Step.gate_load (t := 22) rfl ?_); refine Step.loadG ST.out.at0 rfl rfl rfl pl_u64 rfl ?_)
    | ((with_reducible refine Step.gate_load (t := 3) rfl ?_); refine Step.loadG ST.out.at0 rfl rfl rfl pl_int rfl ?_)
    | ((with_reducible refine Step.gate_load (t := 4) rfl ?_); refine Step.loadG ST.out.at0 rfl rfl rfl pl_bool rfl ?_)
    | ((with_reducible refine Step.gate_store (t := 22) rfl ?_); refine Step.store ST.out.at0 rfl rfl rfl rfl rfl pl_u64 rfl rfl ?_; intro w3 nb m; replace ST := Lib.hid (ST.out.set0 nb m); clear nb m)
    | ((with_reducible refine Step.gate_store (t := 3) rfl ?_); refine Step.store ST.out.at0 rfl rfl rfl rfl rfl pl_int rfl rfl ?_; intro w3 nb m; replace ST := Lib.hid (ST.out.set0 nb m); clear nb m)
    | ((with_reducible refine Step.gate_store (t := 4) rfl ?_); refine Step.store ST.out.at0 rfl rfl rfl rfl rfl pl_bool rfl rfl ?_; intro w3 nb m; replace ST := Lib.hid (ST.out.set0 nb m); clear nb m))
  all_goals (refine bodyPost_ret (results_row_tmp rfl _ _ _ _ _ _ rfl ST.out.at2 Try.underlying30 rfl size_acc) rfl ⟨rfl, ST.out.below⟩)
set_option maxHeartbeats 8000000 in
theorem rplan_6 {h h2 : Hrt} {a : Int} {n : Nat} (fn rd imm sz ln : Int) (sg : Bool) (hn : n < 32) (T0 : Hid (∀ w, Calls Try.prog 18 #[.agg (hc h)] w fun e w' => e = .returned (.agg (hc h2)) ∧ Below w.heap.size w w')) (m : Int) (T1 : Hid (∀ w, Calls Try.prog 19 #[.int .u32 a] w fun e w' => e = .returned (.tuple #[.agg #[.int .i64 6, .int .i64 fn, .int .i64 rd, .int .i64 (n : Nat), .int .i64 m, .int .i64 imm, .int .i64 sz, .bool sg], .bool true]) ∧ Below w.heap.size w w')) (w : World) : Calls Try.prog 6 #[.agg (hc h), .int .u32 a, .int .i64 ln] w fun e w' => e = .returned (.tuple #[.agg #[.bool false, .bool sg, .int .i64 sz, .int .i64 rd, .int .i64 ln, .int .u64 (IntKind.u64.wrap (h2.x n + IntKind.u64.wrap imm)), .int .u64 0], .bool true]) ∧ Below w.heap.size w w' := by
  have e8 : ((32 : Int) ≤ (n : Int)) = False := eq_false (by omega)
  go_enter Try.func6, Try.ntmps6
  have ST := Lib.hid (Kn.nil (S := Step.Nil) (W := w))
  go_wp2_with (first
    | ((with_reducible refine Calm.region_alloc (id := 5) (fin := ?fin_4) ?hm_4 14 13 10 ?o1_4 (.cells #[.bool false, .bool false, .int .i64 0, .int .i64 0, .int .i64 0, .int .u64 0, .int .u64 0] 30 (0, 0)) [(31, .pointer (some ⟨g3, 6, none⟩)), (32, .int .i64 sz), (33, .int .i64 ln), (34, .pointer (some ⟨g3, 3, none⟩)), (35, .int .i64 (n : Nat)), (36, .pointer (some ⟨g1, 0, none⟩)), (37, .pointer (some ⟨g1, n, none⟩)), (38, .int .u64 (h2.x n)), (39, .pointer (some ⟨g3, 5, none⟩)), (40, .int .i64 imm), (41, .int .u64 (IntKind.u64.wrap imm)), (42, .int .u64 (IntKind.u64.wrap (h2.x n + IntKind.u64.wrap imm))), (43, .agg #[.bool false, .bool false, .int .i64 sz, .int .i64 0, .int .i64 ln, .int .u64 (IntKind.u64.wrap (h2.x n + IntKind.u64.wrap imm)), .int .u64 0])] ?hp_4 ?hin_4 ?hsolo_4 ?hoa_4 (by decide) ?hda_4 ?hga_4 ?hrun_4 ?hfin_4 ?hcalm_4 ?_); (case hm_4 => rfl); (case hoa_4 => rfl); (case hp_4 => kernel_rfl); (case hin_4 => kernel_rfl); (case hsolo_4 => kernel_rfl); (case hda_4 => rfl); (case hga_4 => rfl); (case hrun_4 => exact alloc_run rfl zero_acc); (case hfin_4 => (simp only [Reg.puts, Act.put, List.setIfInBounds_toArray, List.set_cons_zero, List.set_cons_succ]; try rfl)); (case hcalm_4 => (simp only [List.take, List.eraseIdx]; (repeat' (first | exact Calm.calm_nil | refine Calm.calm_cons ?_ ?_)); all_goals (first | exact calm_load ST.out.at0 rfl rfl rfl pl_int rfl rfl | exact calm_load ST.out.at2 rfl rfl rfl pl_u64 (hc_x _ hn) rfl | exact calm_slot rfl rfl (fun X => by first | (go_simp; done) | (go_simp; rfl))))); intro g4 w1 hg hlt hb ho; have st_ := Lib.hid (ST.out.made ⟨ho⟩ hg hb); clear ST; have ST := st_; clear hg hlt hb ho; simp only [List.drop, Calm.ptr, Act.put, List.setIfInBounds_toArray, List.set_cons_zero, List.set_cons_succ])
    | (go_at_call 18; (with_reducible refine (T0.out _).mono ?_); rintro e w' ⟨rfl, hb⟩; replace ST := Lib.hid (ST.out.call hb); clear hb)
    | (go_at_call 19; (with_reducible refine (T1.out _).mono ?_); rintro e w' ⟨rfl, hb⟩; replace ST := Lib.hid (ST.out.call hb); clear hb)
    | ((with_reducible refine Step.gate_box (t := 25) rfl ?_); refine Step.fresh (cs := hc h) (T := 25) rfl ?hr ?_; (case hr => first | (go_simp; done) | (go_simp; rfl)); intro g1 w1 b hg hb; replace ST := Lib.hid (ST.out.made b hg hb); clear b hb; clear hg)
    | ((with_reducible refine Step.gate_alloc (t := 30) rfl ?_); refine Step.freshAlloc rfl rfl (alloc_agg zero_acc) ?_; intro g2 w2 b hg hb; replace ST := Lib.hid (ST.out.made b hg hb); clear b hb; clear hg)
    | ((with_reducible refine Step.gate_alloc (t := 41) rfl ?_); refine Step.freshAlloc rfl rfl (alloc_agg zero_inst) ?_; intro g3 w2 b hg hb; replace ST := Lib.hid (ST.out.made b hg hb); clear b hb; clear hg)
    | ((with_reducible refine Step.gate_store (t := 25) rfl ?_); refine Step.storeAll ST.out.at1 rfl rfl rfl rfl rfl (size_hart _) rfl (hc_all _) ?_; intro w3 nb m; replace ST := Lib.hid (ST.out.set1 nb m); clear nb m)
    | ((with_reducible refine Step.gate_load (t := 25) rfl ?_); refine Step.loadAll ST.out.at1 rfl rfl rfl Try.underlying25 rfl (size_hart _) ?_)
    | ((with_reducible refine Step.gate_store (t := 41) rfl ?_); refine Step.storeAll ST.out.at0 rfl rfl rfl rfl rfl size_inst rfl rfl ?_; intro w3 nb m; replace ST := Lib.hid (ST.out.set0 nb m); clear nb m)
    | ((with_reducible refine Step.gate_load (t := 41) rfl ?_); refine Step.loadAll ST.out.at1 rfl rfl rfl Try.underlying41 rfl size_inst ?_)
    | ((with_reducible refine Step.gate_store (t := 30) rfl ?_); refine Step.storeAll ST.out.at0 rfl rfl rfl rfl rfl size_acc rfl rfl ?_; intro w3 nb m; replace ST := Lib.hid (ST.out.set0 nb m); clear nb m)
    | ((with_reducible refine Step.gate_load (t := 30) rfl ?_); refine Step.loadAll ST.out.at0 rfl rfl rfl Try.underlying30 rfl size_acc ?_)
    | ((with_reducible refine Step.gate_store (t := 30) rfl ?_); refine Step.storeAll ST.out.at2 rfl rfl rfl rfl rfl size_acc rfl rfl ?_; intro w3 nb m; replace ST := Lib.hid (ST.out.set2 nb m); clear nb m)
    | ((with_reducible refine Step.gate_store (t := 30) rfl ?_); refine Step.storeAll ST.out.at1 rfl rfl rfl rfl rfl size_acc rfl rfl ?_; intro w3 nb m; replace ST := Lib.hid (ST.out.set1 nb m); clear nb m)
    | ((with_reducible refine Step.gate_load (t := 22) rfl ?_); refine Step.load ST.out.at1 rfl rfl rfl pl_u64 rfl ?_)
    | ((with_reducible refine Step.gate_load (t := 3) rfl ?_); refine Step.load ST.out.at1 rfl rfl rfl pl_int rfl ?_)
    | ((with_reducible refine Step.gate_load (t := 4) rfl ?_); refine Step.load ST.out.at1 rfl rfl rfl pl_bool rfl ?_)
    | ((with_reducible refine Step.gate_load (t := 22) rfl ?_); refine Step.loadG ST.out.at1 rfl rfl rfl pl_u64 rfl ?_)
    | ((with_reducible refine Step.gate_load (t := 3) rfl ?_); refine Step.loadG ST.out.at1 rfl rfl rfl pl_int rfl ?_)
    | ((with_reducible refine Step.gate_load (t := 4) rfl ?_); refine Step.loadG ST.out.at1 rfl rfl rfl pl_bool rfl ?_)
    | ((with_reducible refine Step.gate_load (t := 22) rfl ?_); refine Step.load ST.out.at0 rfl rfl rfl pl_u64 rfl ?_)
    | ((with_reducible refine Step.gate_load (t := 3) rfl ?_); refine Step.load ST.out.at0 rfl rfl rfl pl_int rfl ?_)
    | ((with_reducible refine Step.gate_load (t := 4) rfl ?_); refine Step.load ST.out.at0 rfl rfl rfl pl_bool rfl ?_)
    | ((with_reducible refine Step.gate_load (t := 22) rfl ?_); refine Step.loadG ST.out.at0 rfl rfl rfl pl_u64 rfl ?_)
    | ((with_reducible refine Step.gate_load (t := 3) rfl ?_); refine Step.loadG ST.out.at0 rfl rfl rfl pl_int rfl ?_)
    | ((with_reducible refine Step.gate_load (t := 4) rfl ?_); refine Step.loadG ST.out.at0 rfl rfl rfl pl_bool rfl ?_)
    | ((with_reducible refine Step.gate_store (t := 22) rfl ?_); refine Step.store ST.out.at0 rfl rfl rfl rfl rfl pl_u64 rfl rfl ?_; intro w3 nb m; replace ST := Lib.hid (ST.out.set0 nb m); clear nb m)
    | ((with_reducible refine Step.gate_store (t := 3) rfl ?_); refine Step.store ST.out.at0 rfl rfl rfl rfl rfl pl_int rfl rfl ?_; intro w3 nb m; replace ST := Lib.hid (ST.out.set0 nb m); clear nb m)
    | ((with_reducible refine Step.gate_store (t := 4) rfl ?_); refine Step.store ST.out.at0 rfl rfl rfl rfl rfl pl_bool rfl rfl ?_; intro w3 nb m; replace ST := Lib.hid (ST.out.set0 nb m); clear nb m))
  all_goals (refine bodyPost_ret (results_row_tmp rfl _ _ _ _ _ _ rfl ST.out.at2 Try.underlying30 rfl size_acc) rfl ⟨rfl, ST.out.below⟩)
set_option maxHeartbeats 8000000 in
theorem rplan_7 {h h2 : Hrt} {a : Int} {n : Nat} (fn rd imm sz ln : Int) (sg : Bool) (hn : n < 32) (T0 : Hid (∀ w, Calls Try.prog 18 #[.agg (hc h)] w fun e w' => e = .returned (.agg (hc h2)) ∧ Below w.heap.size w w')) {u : Int} {m : Nat} (hm : m < 32) (TE : Hid (∀ w, Calls Try.prog 20 #[.int .u64 (h2.x m), .int .i64 sz, .bool false] w fun e w' => e = .returned (.int .u64 u) ∧ Below w.heap.size w w')) (T1 : Hid (∀ w, Calls Try.prog 19 #[.int .u32 a] w fun e w' => e = .returned (.tuple #[.agg #[.int .i64 7, .int .i64 fn, .int .i64 rd, .int .i64 (n : Nat), .int .i64 (m : Nat), .int .i64 imm, .int .i64 sz, .bool sg], .bool true]) ∧ Below w.heap.size w w')) (w : World) : Calls Try.prog 6 #[.agg (hc h), .int .u32 a, .int .i64 ln] w fun e w' => e = .returned (.tuple #[.agg #[.bool true, .bool false, .int .i64 sz, .int .i64 0, .int .i64 ln, .int .u64 (IntKind.u64.wrap (h2.x n + IntKind.u64.wrap imm)), .int .u64 u], .bool true]) ∧ Below w.heap.size w w' := by
  have e8 : ((32 : Int) ≤ (n : Int)) = False := eq_false (by omega)
  have e9 : ((32 : Int) ≤ (m : Int)) = False := eq_false (by omega)
  go_enter Try.func6, Try.ntmps6
  have ST := Lib.hid (Kn.nil (S := Step.Nil) (W := w))
  go_wp2_with (first
    | ((with_reducible refine Calm.region_alloc (id := 5) (fin := ?fin_5) ?hm_5 14 13 10 ?o1_5 (.cells #[.bool false, .bool false, .int .i64 0, .int .i64 0, .int .i64 0, .int .u64 0, .int .u64 0] 30 (0, 0)) [(31, .pointer (some ⟨g3, 6, none⟩)), (32, .int .i64 sz), (33, .int .i64 ln), (34, .pointer (some ⟨g3, 3, none⟩)), (35, .int .i64 (n : Nat)), (36, .pointer (some ⟨g1, 0, none⟩)), (37, .pointer (some ⟨g1, n, none⟩)), (38, .int .u64 (h2.x n)), (39, .pointer (some ⟨g3, 5, none⟩)), (40, .int .i64 imm), (41, .int .u64 (IntKind.u64.wrap imm)), (42, .int .u64 (IntKind.u64.wrap (h2.x n + IntKind.u64.wrap imm))), (43, .agg #[.bool false, .bool false, .int .i64 sz, .int .i64 0, .int .i64 ln, .int .u64 (IntKind.u64.wrap (h2.x n + IntKind.u64.wrap imm)), .int .u64 0])] ?hp_5 ?hin_5 ?hsolo_5 ?hoa_5 (by decide) ?hda_5 ?hga_5 ?hrun_5 ?hfin_5 ?hcalm_5 ?_); (case hm_5 => rfl); (case hoa_5 => rfl); (case hp_5 => kernel_rfl); (case hin_5 => kernel_rfl); (case hsolo_5 => kernel_rfl); (case hda_5 => rfl); (case hga_5 => rfl); (case hrun_5 => exact alloc_run rfl zero_acc); (case hfin_5 => (simp only [Reg.puts, Act.put, List.setIfInBounds_toArray, List.set_cons_zero, List.set_cons_succ]; try rfl)); (case hcalm_5 => (simp only [List.take, List.eraseIdx]; (repeat' (first | exact Calm.calm_nil | refine Calm.calm_cons ?_ ?_)); all_goals (first | exact calm_load ST.out.at0 rfl rfl rfl pl_int rfl rfl | exact calm_load ST.out.at2 rfl rfl rfl pl_u64 (hc_x _ hn) rfl | exact calm_slot rfl rfl (fun X => by first | (go_simp; done) | (go_simp; rfl))))); intro g4 w1 hg hlt hb ho; have st_ := Lib.hid (ST.out.made ⟨ho⟩ hg hb); clear ST; have ST := st_; clear hg hlt hb ho; simp only [List.drop, Calm.ptr, Act.put, List.setIfInBounds_toArray, List.set_cons_zero, List.set_cons_succ])
    | ((with_reducible refine Sq.region (id := 8) (I := fun X => Kn _ _ X _) ?hm3 8 ST.out.drew ?hp3 ?hs3); (case hm3 => rfl); (case hp3 => kernel_rfl); intro ops K hops hK; clear hops; dsimp only [List.take]; (repeat (first | (refine Sq.seq_move rfl rfl ?_; simp only [Act.put, Act.eval, Array.getD_eq_getD_getElem?, List.getElem?_toArray, List.getElem?_cons_zero, List.getElem?_cons_succ, Option.getD_some, List.setIfInBounds_toArray, List.set_cons_zero, List.set_cons_succ]) | (refine Sq.seq_check rfl rfl rfl ?_; simp only [Act.put, Act.eval, Array.getD_eq_getD_getElem?, List.getElem?_toArray, List.getElem?_cons_zero, List.getElem?_cons_succ, Option.getD_some, List.setIfInBounds_toArray, List.set_cons_zero, List.set_cons_succ]) | (refine Sq.seq_pure (v := .pointer (some ⟨g1, m, none⟩)) rfl (fun X => by first | (go_simp; done) | (go_simp; intro hge; exfalso; omega)) ?_; simp only [Act.put, Act.eval, Array.getD_eq_getD_getElem?, List.getElem?_toArray, List.getElem?_cons_zero, List.getElem?_cons_succ, Option.getD_some, List.setIfInBounds_toArray, List.set_cons_zero, List.set_cons_succ]) | (refine Sq.seq_load (t := 22) (fun X hX => hX.at1) (Sq.wanted_none rfl) rfl rfl pl_u64 rfl ?_; simp only [Act.put, Act.eval, Array.getD_eq_getD_getElem?, List.getElem?_toArray, List.getElem?_cons_zero, List.getElem?_cons_succ, Option.getD_some, List.setIfInBounds_toArray, List.set_cons_zero, List.set_cons_succ]) | (refine Sq.seq_load (t := 3) (fun X hX => hX.at1) (Sq.wanted_none rfl) rfl rfl pl_int rfl ?_; simp only [Act.put, Act.eval, Array.getD_eq_getD_getElem?, List.getElem?_toArray, List.getElem?_cons_zero, List.getElem?_cons_succ, Option.getD_some, List.setIfInBounds_toArray, List.set_cons_zero, List.set_cons_succ]) | (refine Sq.seq_load (t := 4) (fun X hX => hX.at1) (Sq.wanted_none rfl) rfl rfl pl_bool rfl ?_; simp only [Act.put, Act.eval, Array.getD_eq_getD_getElem?, List.getElem?_toArray, List.getElem?_cons_zero, List.getElem?_cons_succ, Option.getD_some, List.setIfInBounds_toArray, List.set_cons_zero, List.set_cons_succ]) | (refine Sq.seq_load (t := 22) (fun X hX => hX.at3) (Sq.wanted_none rfl) rfl rfl pl_u64 (hc_x _ hm) ?_; simp only [Act.put, Act.eval, Array.getD_eq_getD_getElem?, List.getElem?_toArray, List.getElem?_cons_zero, List.getElem?_cons_succ, Option.getD_some, List.setIfInBounds_toArray, List.set_cons_zero, List.set_cons_succ]) | (refine Sq.seq_call 20 rfl (Sq.wanted_none rfl) (fun X => ?_) (fun X hX => (TE.out X).mono fun e w' h => ⟨h.1, hX.call h.2⟩) ?_; (focus (first | (go_simp; done) | (go_simp; rfl))); simp only [Act.put, Act.eval, Array.getD_eq_getD_getElem?, List.getElem?_toArray, List.getElem?_cons_zero, List.getElem?_cons_succ, Option.getD_some, List.setIfInBounds_toArray, List.set_cons_zero, List.set_cons_succ]) | (refine' Sq.seq_pure rfl (fun X => _) _; rotate_left; (first | (go_simp; done) | (go_simp; rfl)); simp only [Act.put, Act.eval, Array.getD_eq_getD_getElem?, List.getElem?_toArray, List.getElem?_cons_zero, List.getElem?_cons_succ, Option.getD_some, List.setIfInBounds_toArray, List.set_cons_zero, List.set_cons_succ]))); refine Sq.seq_nil ?_; refine hK.out _ fun w1 hk => ?_; clear hK; replace ST := Lib.hid hk; clear hk; dsimp only [List.drop])
    | (go_at_call 18; (with_reducible refine (T0.out _).mono ?_); rintro e w' ⟨rfl, hb⟩; replace ST := Lib.hid (ST.out.call hb); clear hb)
    | (go_at_call 19; (with_reducible refine (T1.out _).mono ?_); rintro e w' ⟨rfl, hb⟩; replace ST := Lib.hid (ST.out.call hb); clear hb)
    | ((with_reducible refine Step.gate_box (t := 25) rfl ?_); refine Step.fresh (cs := hc h) (T := 25) rfl ?hr ?_; (case hr => first | (go_simp; done) | (go_simp; rfl)); intro g1 w1 b hg hb; replace ST := Lib.hid (ST.out.made b hg hb); clear b hb; clear hg)
    | ((with_reducible refine Step.gate_alloc (t := 30) rfl ?_); refine Step.freshAlloc rfl rfl (alloc_agg zero_acc) ?_; intro g2 w2 b hg hb; replace ST := Lib.hid (ST.out.made b hg hb); clear b hb; clear hg)
    | ((with_reducible refine Step.gate_alloc (t := 41) rfl ?_); refine Step.freshAlloc rfl rfl (alloc_agg zero_inst) ?_; intro g3 w2 b hg hb; replace ST := Lib.hid (ST.out.made b hg hb); clear b hb; clear hg)
    | ((with_reducible refine Step.gate_store (t := 25) rfl ?_); refine Step.storeAll ST.out.at1 rfl rfl rfl rfl rfl (size_hart _) rfl (hc_all _) ?_; intro w3 nb m; replace ST := Lib.hid (ST.out.set1 nb m); clear nb m)
    | ((with_reducible refine Step.gate_load (t := 25) rfl ?_); refine Step.loadAll ST.out.at1 rfl rfl rfl Try.underlying25 rfl (size_hart _) ?_)
    | ((with_reducible refine Step.gate_store (t := 41) rfl ?_); refine Step.storeAll ST.out.at0 rfl rfl rfl rfl rfl size_inst rfl rfl ?_; intro w3 nb m; replace ST := Lib.hid (ST.out.set0 nb m); clear nb m)
    | ((with_reducible refine Step.gate_load (t := 41) rfl ?_); refine Step.loadAll ST.out.at1 rfl rfl rfl Try.underlying41 rfl size_inst ?_)
    | ((with_reducible refine Step.gate_store (t := 30) rfl ?_); refine Step.storeAll ST.out.at0 rfl rfl rfl rfl rfl size_acc rfl rfl ?_; intro w3 nb m; replace ST := Lib.hid (ST.out.set0 nb m); clear nb m)
    | ((with_reducible refine Step.gate_load (t := 30) rfl ?_); refine Step.loadAll ST.out.at0 rfl rfl rfl Try.underlying30 rfl size_acc ?_)
    | ((with_reducible refine Step.gate_store (t := 30) rfl ?_); refine Step.storeAll ST.out.at2 rfl rfl rfl rfl rfl size_acc rfl rfl ?_; intro w3 nb m; replace ST := Lib.hid (ST.out.set2 nb m); clear nb m)
    | ((with_reducible refine Step.gate_store (t := 30) rfl ?_); refine Step.storeAll ST.out.at1 rfl rfl rfl rfl rfl size_acc rfl rfl ?_; intro w3 nb m; replace ST := Lib.hid (ST.out.set1 nb m); clear nb m)
    | ((with_reducible refine Step.gate_load (t := 22) rfl ?_); refine Step.load ST.out.at1 rfl rfl rfl pl_u64 rfl ?_)
    | ((with_reducible refine Step.gate_load (t := 3) rfl ?_); refine Step.load ST.out.at1 rfl rfl rfl pl_int rfl ?_)
    | ((with_reducible refine Step.gate_load (t := 4) rfl ?_); refine Step.load ST.out.at1 rfl rfl rfl pl_bool rfl ?_)
    | ((with_reducible refine Step.gate_load (t := 22) rfl ?_); refine Step.loadG ST.out.at1 rfl rfl rfl pl_u64 rfl ?_)
    | ((with_reducible refine Step.gate_load (t := 3) rfl ?_); refine Step.loadG ST.out.at1 rfl rfl rfl pl_int rfl ?_)
    | ((with_reducible refine Step.gate_load (t := 4) rfl ?_); refine Step.loadG ST.out.at1 rfl rfl rfl pl_bool rfl ?_)
    | ((with_reducible refine Step.gate_load (t := 22) rfl ?_); refine Step.load ST.out.at0 rfl rfl rfl pl_u64 rfl ?_)
    | ((with_reducible refine Step.gate_load (t := 3) rfl ?_); refine Step.load ST.out.at0 rfl rfl rfl pl_int rfl ?_)
    | ((with_reducible refine Step.gate_load (t := 4) rfl ?_); refine Step.load ST.out.at0 rfl rfl rfl pl_bool rfl ?_)
    | ((with_reducible refine Step.gate_load (t := 22) rfl ?_); refine Step.loadG ST.out.at0 rfl rfl rfl pl_u64 rfl ?_)
    | ((with_reducible refine Step.gate_load (t := 3) rfl ?_); refine Step.loadG ST.out.at0 rfl rfl rfl pl_int rfl ?_)
    | ((with_reducible refine Step.gate_load (t := 4) rfl ?_); refine Step.loadG ST.out.at0 rfl rfl rfl pl_bool rfl ?_)
    | ((with_reducible refine Step.gate_store (t := 22) rfl ?_); refine Step.store ST.out.at0 rfl rfl rfl rfl rfl pl_u64 rfl rfl ?_; intro w3 nb m; replace ST := Lib.hid (ST.out.set0 nb m); clear nb m)
    | ((with_reducible refine Step.gate_store (t := 3) rfl ?_); refine Step.store ST.out.at0 rfl rfl rfl rfl rfl pl_int rfl rfl ?_; intro w3 nb m; replace ST := Lib.hid (ST.out.set0 nb m); clear nb m)
    | ((with_reducible refine Step.gate_store (t := 4) rfl ?_); refine Step.store ST.out.at0 rfl rfl rfl rfl rfl pl_bool rfl rfl ?_; intro w3 nb m; replace ST := Lib.hid (ST.out.set0 nb m); clear nb m))
  all_goals (refine bodyPost_ret (results_row_tmp rfl _ _ _ _ _ _ rfl ST.out.at2 Try.underlying30 rfl size_acc) rfl ⟨rfl, ST.out.below⟩)
set_option maxHeartbeats 8000000 in
theorem rplan_no {h h2 : Hrt} {a : Int} {n : Nat} (fn rd imm sz ln : Int) (sg : Bool) (hn : n < 32) (T0 : Hid (∀ w, Calls Try.prog 18 #[.agg (hc h)] w fun e w' => e = .returned (.agg (hc h2)) ∧ Below w.heap.size w w')) (m k : Int) (n6 : k ≠ 6) (n7 : k ≠ 7) (T1 : Hid (∀ w, Calls Try.prog 19 #[.int .u32 a] w fun e w' => e = .returned (.tuple #[.agg #[.int .i64 k, .int .i64 fn, .int .i64 rd, .int .i64 (n : Nat), .int .i64 m, .int .i64 imm, .int .i64 sz, .bool sg], .bool true]) ∧ Below w.heap.size w w')) (w : World) : Calls Try.prog 6 #[.agg (hc h), .int .u32 a, .int .i64 ln] w fun e w' => e = .returned (.tuple #[.agg #[.bool false, .bool false, .int .i64 0, .int .i64 0, .int .i64 0, .int .u64 0, .int .u64 0], .bool false]) ∧ Below w.heap.size w w' := by
  have e8 : ((32 : Int) ≤ (n : Int)) = False := eq_false (by omega)
  have e1 : (k != 6) = true := bne_iff_ne.2 n6
  have e2 : (k != 7) = true := bne_iff_ne.2 n7
  go_enter Try.func6, Try.ntmps6
  have ST := Lib.hid (Kn.nil (S := Step.Nil) (W := w))
  go_wp2_with (first
    | (go_at_call 18; (with_reducible refine (T0.out _).mono ?_); rintro e w' ⟨rfl, hb⟩; replace ST := Lib.hid (ST.out.call hb); clear hb)
    | (go_at_call 19; (with_reducible refine (T1.out _).mono ?_); rintro e w' ⟨rfl, hb⟩; replace ST := Lib.hid (ST.out.call hb); clear hb)
    | ((with_reducible refine Step.gate_box (t := 25) rfl ?_); refine Step.fresh (cs := hc h) (T := 25) rfl ?hr ?_; (case hr => first | (go_simp; done) | (go_simp; rfl)); intro g1 w1 b hg hb; replace ST := Lib.hid (ST.out.made b hg hb); clear b hb; clear hg)
    | ((with_reducible refine Step.gate_alloc (t := 30) rfl ?_); refine Step.freshAlloc rfl rfl (alloc_agg zero_acc) ?_; intro g2 w2 b hg hb; replace ST := Lib.hid (ST.out.made b hg hb); clear b hb; clear hg)
    | ((with_reducible refine Step.gate_alloc (t := 41) rfl ?_); refine Step.freshAlloc rfl rfl (alloc_agg zero_inst) ?_; intro g3 w2 b hg hb; replace ST := Lib.hid (ST.out.made b hg hb); clear b hb; clear hg)
    | ((with_reducible refine Step.gate_store (t := 25) rfl ?_); refine Step.storeAll ST.out.at1 rfl rfl rfl rfl rfl (size_hart _) rfl (hc_all _) ?_; intro w3 nb m; replace ST := Lib.hid (ST.out.set1 nb m); clear nb m)
    | ((with_reducible refine Step.gate_load (t := 25) rfl ?_); refine Step.loadAll ST.out.at1 rfl rfl rfl Try.underlying25 rfl (size_hart _) ?_)
    | ((with_reducible refine Step.gate_store (t := 41) rfl ?_); refine Step.storeAll ST.out.at0 rfl rfl rfl rfl rfl size_inst rfl rfl ?_; intro w3 nb m; replace ST := Lib.hid (ST.out.set0 nb m); clear nb m)
    | ((with_reducible refine Step.gate_load (t := 41) rfl ?_); refine Step.loadAll ST.out.at1 rfl rfl rfl Try.underlying41 rfl size_inst ?_)
    | ((with_reducible refine Step.gate_store (t := 30) rfl ?_); refine Step.storeAll ST.out.at0 rfl rfl rfl rfl rfl size_acc rfl rfl ?_; intro w3 nb m; replace ST := Lib.hid (ST.out.set0 nb m); clear nb m)
    | ((with_reducible refine Step.gate_load (t := 30) rfl ?_); refine Step.loadAll ST.out.at0 rfl rfl rfl Try.underlying30 rfl size_acc ?_)
    | ((with_reducible refine Step.gate_store (t := 30) rfl ?_); refine Step.storeAll ST.out.at2 rfl rfl rfl rfl rfl size_acc rfl rfl ?_; intro w3 nb m; replace ST := Lib.hid (ST.out.set2 nb m); clear nb m)
    | ((with_reducible refine Step.gate_store (t := 30) rfl ?_); refine Step.storeAll ST.out.at1 rfl rfl rfl rfl rfl size_acc rfl rfl ?_; intro w3 nb m; replace ST := Lib.hid (ST.out.set1 nb m); clear nb m)
    | ((with_reducible refine Step.gate_load (t := 22) rfl ?_); refine Step.load ST.out.at1 rfl rfl rfl pl_u64 rfl ?_)
    | ((with_reducible refine Step.gate_load (t := 3) rfl ?_); refine Step.load ST.out.at1 rfl rfl rfl pl_int rfl ?_)
    | ((with_reducible refine Step.gate_load (t := 4) rfl ?_); refine Step.load ST.out.at1 rfl rfl rfl pl_bool rfl ?_)
    | ((with_reducible refine Step.gate_load (t := 22) rfl ?_); refine Step.loadG ST.out.at1 rfl rfl rfl pl_u64 rfl ?_)
    | ((with_reducible refine Step.gate_load (t := 3) rfl ?_); refine Step.loadG ST.out.at1 rfl rfl rfl pl_int rfl ?_)
    | ((with_reducible refine Step.gate_load (t := 4) rfl ?_); refine Step.loadG ST.out.at1 rfl rfl rfl pl_bool rfl ?_)
    | ((with_reducible refine Step.gate_load (t := 22) rfl ?_); refine Step.load ST.out.at0 rfl rfl rfl pl_u64 rfl ?_)
    | ((with_reducible refine Step.gate_load (t := 3) rfl ?_); refine Step.load ST.out.at0 rfl rfl rfl pl_int rfl ?_)
    | ((with_reducible refine Step.gate_load (t := 4) rfl ?_); refine Step.load ST.out.at0 rfl rfl rfl pl_bool rfl ?_)
    | ((with_reducible refine Step.gate_load (t := 22) rfl ?_); refine Step.loadG ST.out.at0 rfl rfl rfl pl_u64 rfl ?_)
    | ((with_reducible refine Step.gate_load (t := 3) rfl ?_); refine Step.loadG ST.out.at0 rfl rfl rfl pl_int rfl ?_)
    | ((with_reducible refine Step.gate_load (t := 4) rfl ?_); refine Step.loadG ST.out.at0 rfl rfl rfl pl_bool rfl ?_)
    | ((with_reducible refine Step.gate_store (t := 22) rfl ?_); refine Step.store ST.out.at0 rfl rfl rfl rfl rfl pl_u64 rfl rfl ?_; intro w3 nb m; replace ST := Lib.hid (ST.out.set0 nb m); clear nb m)
    | ((with_reducible refine Step.gate_store (t := 3) rfl ?_); refine Step.store ST.out.at0 rfl rfl rfl rfl rfl pl_int rfl rfl ?_; intro w3 nb m; replace ST := Lib.hid (ST.out.set0 nb m); clear nb m)
    | ((with_reducible refine Step.gate_store (t := 4) rfl ?_); refine Step.store ST.out.at0 rfl rfl rfl rfl rfl pl_bool rfl rfl ?_; intro w3 nb m; replace ST := Lib.hid (ST.out.set0 nb m); clear nb m))
  all_goals (refine bodyPost_ret (results_row_tmp rfl _ _ _ _ _ _ rfl ST.out.at1 Try.underlying30 rfl size_acc) rfl ⟨rfl, ST.out.below⟩)
set_option maxHeartbeats 8000000 in
theorem rplan_none {h h2 : Hrt} {a : Int} {n : Nat} (fn rd imm sz ln : Int) (sg : Bool) (hn : n < 32) (T0 : Hid (∀ w, Calls Try.prog 18 #[.agg (hc h)] w fun e w' => e = .returned (.agg (hc h2)) ∧ Below w.heap.size w w')) (m k : Int) (T1 : Hid (∀ w, Calls Try.prog 19 #[.int .u32 a] w fun e w' => e = .returned (.tuple #[.agg #[.int .i64 k, .int .i64 fn, .int .i64 rd, .int .i64 (n : Nat), .int .i64 m, .int .i64 imm, .int .i64 sz, .bool sg], .bool false]) ∧ Below w.heap.size w w')) (w : World) : Calls Try.prog 6 #[.agg (hc h), .int .u32 a, .int .i64 ln] w fun e w' => e = .returned (.tuple #[.agg #[.bool false, .bool false, .int .i64 0, .int .i64 0, .int .i64 0, .int .u64 0, .int .u64 0], .bool false]) ∧ Below w.heap.size w w' := by
  have e8 : ((32 : Int) ≤ (n : Int)) = False := eq_false (by omega)
  go_enter Try.func6, Try.ntmps6
  have ST := Lib.hid (Kn.nil (S := Step.Nil) (W := w))
  go_wp2_with (first
    | (go_at_call 18; (with_reducible refine (T0.out _).mono ?_); rintro e w' ⟨rfl, hb⟩; replace ST := Lib.hid (ST.out.call hb); clear hb)
    | (go_at_call 19; (with_reducible refine (T1.out _).mono ?_); rintro e w' ⟨rfl, hb⟩; replace ST := Lib.hid (ST.out.call hb); clear hb)
    | ((with_reducible refine Step.gate_box (t := 25) rfl ?_); refine Step.fresh (cs := hc h) (T := 25) rfl ?hr ?_; (case hr => first | (go_simp; done) | (go_simp; rfl)); intro g1 w1 b hg hb; replace ST := Lib.hid (ST.out.made b hg hb); clear b hb; clear hg)
    | ((with_reducible refine Step.gate_alloc (t := 30) rfl ?_); refine Step.freshAlloc rfl rfl (alloc_agg zero_acc) ?_; intro g2 w2 b hg hb; replace ST := Lib.hid (ST.out.made b hg hb); clear b hb; clear hg)
    | ((with_reducible refine Step.gate_alloc (t := 41) rfl ?_); refine Step.freshAlloc rfl rfl (alloc_agg zero_inst) ?_; intro g3 w2 b hg hb; replace ST := Lib.hid (ST.out.made b hg hb); clear b hb; clear hg)
    | ((with_reducible refine Step.gate_store (t := 25) rfl ?_); refine Step.storeAll ST.out.at1 rfl rfl rfl rfl rfl (size_hart _) rfl (hc_all _) ?_; intro w3 nb m; replace ST := Lib.hid (ST.out.set1 nb m); clear nb m)
    | ((with_reducible refine Step.gate_load (t := 25) rfl ?_); refine Step.loadAll ST.out.at1 rfl rfl rfl Try.underlying25 rfl (size_hart _) ?_)
    | ((with_reducible refine Step.gate_store (t := 41) rfl ?_); refine Step.storeAll ST.out.at0 rfl rfl rfl rfl rfl size_inst rfl rfl ?_; intro w3 nb m; replace ST := Lib.hid (ST.out.set0 nb m); clear nb m)
    | ((with_reducible refine Step.gate_load (t := 41) rfl ?_); refine Step.loadAll ST.out.at1 rfl rfl rfl Try.underlying41 rfl size_inst ?_)
    | ((with_reducible refine Step.gate_store (t := 30) rfl ?_); refine Step.storeAll ST.out.at0 rfl rfl rfl rfl rfl size_acc rfl rfl ?_; intro w3 nb m; replace ST := Lib.hid (ST.out.set0 nb m); clear nb m)
    | ((with_reducible refine Step.gate_load (t := 30) rfl ?_); refine Step.loadAll ST.out.at0 rfl rfl rfl Try.underlying30 rfl size_acc ?_)
    | ((with_reducible refine Step.gate_store (t := 30) rfl ?_); refine Step.storeAll ST.out.at2 rfl rfl rfl rfl rfl size_acc rfl rfl ?_; intro w3 nb m; replace ST := Lib.hid (ST.out.set2 nb m); clear nb m)
    | ((with_reducible refine Step.gate_store (t := 30) rfl ?_); refine Step.storeAll ST.out.at1 rfl rfl rfl rfl rfl size_acc rfl rfl ?_; intro w3 nb m; replace ST := Lib.hid (ST.out.set1 nb m); clear nb m)
    | ((with_reducible refine Step.gate_load (t := 22) rfl ?_); refine Step.load ST.out.at1 rfl rfl rfl pl_u64 rfl ?_)
    | ((with_reducible refine Step.gate_load (t := 3) rfl ?_); refine Step.load ST.out.at1 rfl rfl rfl pl_int rfl ?_)
    | ((with_reducible refine Step.gate_load (t := 4) rfl ?_); refine Step.load ST.out.at1 rfl rfl rfl pl_bool rfl ?_)
    | ((with_reducible refine Step.gate_load (t := 22) rfl ?_); refine Step.loadG ST.out.at1 rfl rfl rfl pl_u64 rfl ?_)
    | ((with_reducible refine Step.gate_load (t := 3) rfl ?_); refine Step.loadG ST.out.at1 rfl rfl rfl pl_int rfl ?_)
    | ((with_reducible refine Step.gate_load (t := 4) rfl ?_); refine Step.loadG ST.out.at1 rfl rfl rfl pl_bool rfl ?_)
    | ((with_reducible refine Step.gate_load (t := 22) rfl ?_); refine Step.load ST.out.at0 rfl rfl rfl pl_u64 rfl ?_)
    | ((with_reducible refine Step.gate_load (t := 3) rfl ?_); refine Step.load ST.out.at0 rfl rfl rfl pl_int rfl ?_)
    | ((with_reducible refine Step.gate_load (t := 4) rfl ?_); refine Step.load ST.out.at0 rfl rfl rfl pl_bool rfl ?_)
    | ((with_reducible refine Step.gate_load (t := 22) rfl ?_); refine Step.loadG ST.out.at0 rfl rfl rfl pl_u64 rfl ?_)
    | ((with_reducible refine Step.gate_load (t := 3) rfl ?_); refine Step.loadG ST.out.at0 rfl rfl rfl pl_int rfl ?_)
    | ((with_reducible refine Step.gate_load (t := 4) rfl ?_); refine Step.loadG ST.out.at0 rfl rfl rfl pl_bool rfl ?_)
    | ((with_reducible refine Step.gate_store (t := 22) rfl ?_); refine Step.store ST.out.at0 rfl rfl rfl rfl rfl pl_u64 rfl rfl ?_; intro w3 nb m; replace ST := Lib.hid (ST.out.set0 nb m); clear nb m)
    | ((with_reducible refine Step.gate_store (t := 3) rfl ?_); refine Step.store ST.out.at0 rfl rfl rfl rfl rfl pl_int rfl rfl ?_; intro w3 nb m; replace ST := Lib.hid (ST.out.set0 nb m); clear nb m)
    | ((with_reducible refine Step.gate_store (t := 4) rfl ?_); refine Step.store ST.out.at0 rfl rfl rfl rfl rfl pl_bool rfl rfl ?_; intro w3 nb m; replace ST := Lib.hid (ST.out.set0 nb m); clear nb m))
  all_goals (refine bodyPost_ret (results_row_tmp rfl _ _ _ _ _ _ rfl ST.out.at1 Try.underlying30 rfl size_acc) rfl ⟨rfl, ST.out.below⟩)
/-- What an instruction is planned as. -/
def planV (h : Hrt) (d : Option Ins) (ln : Int) : Acc × Bool :=
  match d with
  | none => (Acc.zero, false)
  | some i => if i.k = 6 then (⟨false, i.sg, i.sz, i.rd, ln, IntKind.u64.wrap (h.x i.rs1.toNat + IntKind.u64.wrap i.imm), 0⟩, true)
    else if i.k = 7 then (⟨true, false, i.sz, 0, ln, IntKind.u64.wrap (h.x i.rs1.toNat + IntKind.u64.wrap i.imm), extV (h.x i.rs2.toNat) i.sz false⟩, true)
    else (Acc.zero, false)
def planT (p : Acc × Bool) : Value := .tuple #[.agg p.1.cells, .bool p.2]
theorem plan_any (h : Hrt) (hf : Fit h) (a ln : Int) (ha : W32 a) (w : World) : Calls Try.prog 5 #[.agg (hc h), .int .u32 a, .int .i64 ln] w fun e w' => e = .returned (planT (planV (ord h) (dec a) ln)) ∧ Below w.heap.size w w' := by
  have T0 := Lib.hid (morder_any h hf)
  have T1 := Lib.hid (Decode_any a ha)
  have hx := fun n hn => (ord_fit hf).x n hn
  generalize ord h = h2 at *
  cases hd : dec a with
  | none => rw [hd] at T1; exact plan_no (n := 0) 0 0 0 0 ln false (by decide) T0 0 0 (by decide) (by decide) false T1 w
  | some i =>
    have hi := dec_fits hd
    rw [hd] at T1
    clear hd
    obtain ⟨k, fn, rd, rs1, rs2, imm, sz, sg⟩ := i
    have h1 := hi.rs1
    have h2' := hi.rs2
    clear hi
    dsimp only at h1 h2'
    obtain ⟨n, rfl⟩ := Int.eq_ofNat_of_zero_le h1.1
    obtain ⟨m, rfl⟩ := Int.eq_ofNat_of_zero_le h2'.1
    have hn : n < 32 := by omega
    have hm : m < 32 := by omega
    by_cases k6 : k = 6
    · subst k6; exact plan_6 fn rd imm sz ln sg hn T0 _ T1 w
    · by_cases k7 : k = 7
      · subst k7; exact plan_7 fn rd imm sz ln sg hn T0 hm (Lib.hid (extend_any (hx m hm) sz false)) T1 w
      · rw [show planV h2 (some ⟨k, fn, (rd : Int), n, m, imm, sz, sg⟩) ln = (Acc.zero, false) from by simp [planV, k6, k7]]
        exact plan_no fn rd imm sz ln sg hn T0 _ k k6 k7 true T1 w
theorem rplan_any (h : Hrt) (hf : Fit h) (a ln : Int) (ha : W32 a) (w : World) : Calls Try.prog 6 #[.agg (hc h), .int .u32 a, .int .i64 ln] w fun e w' => e = .returned (planT (planV (ord h) (dec a) ln)) ∧ Below w.heap.size w w' := by
  have T0 := Lib.hid (rOrder_any h hf)
  have T1 := Lib.hid (rDecode_any a ha)
  have hx := fun n hn => (ord_fit hf).x n hn
  generalize ord h = h2 at *
  cases hd : dec a with
  | none => rw [hd] at T1; exact rplan_none (n := 0) 0 0 0 0 ln false (by decide) T0 0 0 T1 w
  | some i =>
    have hi := dec_fits hd
    rw [hd] at T1
    clear hd
    obtain ⟨k, fn, rd, rs1, rs2, imm, sz, sg⟩ := i
    have h1 := hi.rs1
    have h2' := hi.rs2
    clear hi
    dsimp only at h1 h2'
    obtain ⟨n, rfl⟩ := Int.eq_ofNat_of_zero_le h1.1
    obtain ⟨m, rfl⟩ := Int.eq_ofNat_of_zero_le h2'.1
    have hn : n < 32 := by omega
    have hm : m < 32 := by omega
    by_cases k6 : k = 6
    · subst k6; exact rplan_6 fn rd imm sz ln sg hn T0 _ T1 w
    · by_cases k7 : k = 7
      · subst k7; exact rplan_7 fn rd imm sz ln sg hn T0 hm (Lib.hid (rextend_any (hx m hm) sz false)) T1 w
      · rw [show planV h2 (some ⟨k, fn, (rd : Int), n, m, imm, sz, sg⟩) ln = (Acc.zero, false) from by simp [planV, k6, k7]]
        exact rplan_no fn rd imm sz ln sg hn T0 _ k k6 k7 T1 w
end Go.Proofs.Ytecpkipgkaaefaa.Hart
end
