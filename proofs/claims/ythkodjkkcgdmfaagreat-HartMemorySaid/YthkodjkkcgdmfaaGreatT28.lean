/- Parts of the walks and laws for the claim: LawI; no conditions beyond the theorems' own. -/
import Derived.Test.YthkodjkkcgdmfaaGreatT27
section
namespace Go.Proofs.YthkodjkkcgdmfaaGreat.Hart
open Go Go.RowKit Go.Proofs.YthkodjkkcgdmfaaGreat.Step Go.Proofs.YthkodjkkcgdmfaaGreat.Enc Go.Proofs.YthkodjkkcgdmfaaGreat.Kn
open Go.Proofs.YthkodjkkcgdmfaaGreat.Mem (Ram Grow hasB newB wholeB num wr Rd fl Arg lst)
open Go.Proofs.YthkodjkkcgdmfaaGreat.Duo (Duo RdC cm size_two)
set_option linter.unusedVariables false
set_option linter.unusedSimpArgs false
set_option maxRecDepth 100000
set_option maxHeartbeats 8000000 in
theorem mem_law4 (h C H1 H2 : Hrt) (mX : Nat → Int) (size at_ v V p a w2 : Int) (sg b : Bool) (hV : V = if (sg && b) = true then IntKind.u64.wrap (v % 4294967296 - 4294967296) else v % 4294967296) (hb : (v % 4294967296 / 2147483648 == 1) = b) (hp : 0 ≤ p ∧ p < 1008) (ea : a = 2147483712 + 4 * p) (hv : 0 ≤ v ∧ v < 18446744073709551616) (hw : W32 w2) (TP1 : Hid (∀ w, Calls Tryz.prog 25 #[.int .i64 size, .int .i64 4] w fun e w' => e = .returned (.int .i64 2) ∧ w = w')) (TP2 : Hid (∀ w, Calls Tryz.prog 25 #[.int .i64 at_, .int .i64 1008] w fun e w' => e = .returned (.int .i64 p) ∧ w = w')) (hcm : wr (wr (cm 1 (fun _ => (0, 0)) 0) 0 4 6463523) ((2147483652 : Int) - 2147483648).toNat 4 w2 = wr mX 0 4 6463523)
    (TC0 : Hid (∀ w, Calls Tryz.prog 24 #[.agg (hc h)] w fun e w' => e = .returned (.agg (hc C)) ∧ Below w.heap.size w w'))
    (TE : Hid (∀ W, Calls Tryz.prog 27 #[.agg #[.int .i64 6, .int .i64 0, .int .i64 7, .int .i64 5, .int .i64 0, .int .i64 0, .int .i64 4, .bool sg]] W fun e w' => e = .returned (.tuple #[.int .u32 w2, .bool true]) ∧ Below W.heap.size W w'))
    (TS1 : Hid (∀ (X : World) (gc gm : Nat) (tv : Value) (F : Nat → Prop), Kor X gc gm tv 0 2147483648 1 (wr mX 0 4 6463523) F → Calls Tryz.prog 23 #[.pointer (some ⟨gc, 0, none⟩), .agg (hc { C with x := xup (xup C.x 5 a) 6 v }), .int .u64 0] X fun e w' => e = .returned (.tuple #[.agg (hc H1), .agg #[.int .i64 0, .int .i64 0, .int .u64 0, .int .u64 a, .bool false, .bool true]]) ∧ ∃ F', Kor w' gc gm tv 0 2147483648 1 (wr (wr mX 0 4 6463523) (a - 2147483648).toNat 4 v) F' ∧ Mod (fun k => k = gc ∨ F k) X w' ∧ ∀ k, F' k → F k ∨ X.heap.size ≤ k))
    (TS2 : Hid (∀ (X : World) (gc gm : Nat) (tv : Value) (F : Nat → Prop), Kor X gc gm tv 0 2147483648 1 (wr (wr mX 0 4 6463523) (a - 2147483648).toNat 4 v) F → Calls Tryz.prog 23 #[.pointer (some ⟨gc, 0, none⟩), .agg (hc H1), .int .u64 0] X fun e w' => e = .returned (.tuple #[.agg (hc H2), .agg #[.int .i64 0, .int .i64 0, .int .u64 0, .int .u64 0, .bool false, .bool false]]) ∧ ∃ F', Kor w' gc gm tv 0 2147483648 1 (wr (wr mX 0 4 6463523) (a - 2147483648).toNat 4 v) F' ∧ Mod (fun k => k = gc ∨ F k) X w' ∧ ∀ k, F' k → F k ∨ X.heap.size ≤ k))
    (r7 : (hc H2)[7]? = some (.int .u64 V)) (r32 : (hc H2)[32]? = some (.int .u64 2147483656)) (W : World) :
    Calls Tryz.prog 9 #[.agg (hc h), .int .i64 size, .int .i64 at_, .int .u64 v, .bool sg] W fun e w' => e = .returned (.bool true) ∧ Below W.heap.size W w' := by
  have ha : 0 ≤ a ∧ a < 18446744073709551616 := by omega
  have hh : hasB 2147483648 1 a 4 = true := by simp only [hasB, decide_eq_true_eq]; omega
  have q1 : IntKind.i64.wrap (4 * p) = 4 * p := IntWalk.i64_in _ (by omega)
  have q2 : IntKind.i64.wrap (2147483712 + 4 * p) = a := by rw [ea]; exact IntWalk.i64_in _ (by omega)
  have q3 : IntKind.u64.wrap a = a := IntWalk.u64_in _ (by omega)
  have e32 := wrap32 hw
  have HW := Lib.hid hw
  obtain ⟨v0, v1⟩ := hv
  have hv : 0 ≤ v ∧ v < 18446744073709551616 := ⟨v0, v1⟩
  clear hp hw ea
  cases sg
  rotate_left
  cases b
  all_goals (first | simp only [Bool.and_true, Bool.and_false, Bool.false_eq_true, if_false, if_true, Bool.true_and, Bool.false_and] at hV | skip)
  all_goals subst hV
  all_goals (
    go_enter Tryz.func9, Tryz.ntmps9
    have ST := Lib.hid (Kn.nil (S := Step.Nil) (W := W))
    go_wp2_with (first
      | ((with_reducible refine Step.gate_box (t := 25) rfl ?_); refine Step.fresh (cs := hc h) (T := 25) rfl ?hr ?_; (case hr => first | (go_simp; done) | (go_simp; rfl)); intro g5 w1 b hg hb; replace ST := Lib.hid (ST.out.made b hg hb); clear b hb; clear hg)
      | ((with_reducible refine Step.gate_load (t := 25) rfl ?_); refine Step.loadAll ST.out.at0 rfl rfl rfl Tryz.underlying25 rfl (size_hart _) ?_)
      | (go_at_call 24; (with_reducible refine (TC0.out _).mono ?_); rintro e w' ⟨rfl, hb⟩; replace ST := Lib.hid (ST.out.call hb); clear hb)
      | ((with_reducible refine Step.gate_store (t := 25) rfl ?_); refine Step.storeAll ST.out.at0 rfl rfl rfl rfl rfl (size_hart _) rfl (hc_all _) ?_; intro w3 nb m; replace ST := Lib.hid (ST.out.set0 nb m); clear nb m)
      | ((with_reducible refine Step.gate_build (t := 53) rfl ?_); refine Step.freshSlice (cs := #[.int .i64 1, .int .i64 2, .int .i64 4, .int .i64 8]) (T := 3) (n := 4) (m := 4) rfl ?hr ?_; (case hr => first | (go_simp; done) | (go_simp; rfl)); intro gs w1 b hg hb; replace ST := Lib.hid (ST.out.made b hg hb); clear b hg hb)
      | (go_at_call 25; (with_reducible refine (TP1.out _).mono ?_); rintro e w' ⟨rfl, rfl⟩)
      | (go_at_call 25; (with_reducible refine (TP2.out _).mono ?_); rintro e w' ⟨rfl, rfl⟩)
      | ((with_reducible refine Step.gate_load (t := 3) rfl ?_); refine Step.load ST.out.at0 rfl rfl rfl pl_int rfl ?_)
      | ((with_reducible refine Step.gate_store (t := 22) rfl ?_); refine Step.store ST.out.at1 rfl rfl rfl rfl rfl pl_u64 rfl rfl ?_; intro w3 nb m; simp [go_sem, set_x5, set_x6] at nb; replace ST := Lib.hid (ST.out.set1 nb m); clear nb m)
      | (go_at_call 22; (with_reducible refine (one_st4 _).mono ?_); rintro e w9 ⟨gc, gt, h1, h2, F1, F2, rfl, d⟩; replace ST := Lib.hid (DK.join ST.out d); clear d)
      | ((with_reducible refine Step.gate_alloc (t := 40) rfl ?_); refine Step.freshAlloc rfl rfl (Duo.alloc_agg Duo.zero_two) ?_; intro g14 w2' b hg hb; replace ST := Lib.hid (ST.out.made b hg hb); clear b hb hg)
      | ((with_reducible refine Step.gate_store (t := 40) rfl ?_); refine Step.storeAll (vs := #[.pointer (some ⟨h1, 0, none⟩), .pointer (some ⟨h2, 0, none⟩)]) ST.out.kn.at0 rfl rfl rfl rfl rfl size_two rfl rfl ?_; intro w3 nb m; replace ST := Lib.hid (ST.out.set (ST.out.kn.set0 nb m) m ⟨_, List.mem_of_getElem? (i := 0) rfl, rfl⟩ rfl); clear nb m)
      | ((with_reducible refine Step.gate_load (t := 40) rfl ?_); refine Step.loadAll ST.out.kn.at0 rfl rfl rfl Tryz.underlying40 rfl size_two ?_)
      | ((with_reducible refine Step.gate_load (t := 25) rfl ?_); refine Step.loadAll ST.out.kn.at3 rfl rfl rfl Tryz.underlying25 rfl (size_hart _) ?_)
      | ((with_reducible refine Step.gate_load (t := 25) rfl ?_); refine Step.loadAll ST.out.kn.at1 rfl rfl rfl Tryz.underlying25 rfl (size_hart _) ?_)
      | (go_at_call 27; (with_reducible refine (TE.out _).mono ?_); rintro e w' ⟨rfl, hb⟩; replace ST := Lib.hid (ST.out.call hb); clear hb)
      | (go_at_call 28; refine (Duo.wboth4 ST.out.duo 2147483652 w2 (by decide) (by have := HW.out.out; omega) (by decide)).mono ?_; rintro e w9 ⟨rfl, F1', F2', hd, f1, f2, m⟩; rw [hcm] at hd; replace ST := Lib.hid (ST.out.duoTurn hd f1 f2 m); clear hd f1 f2 m)
      | (go_at_call 23; (with_reducible refine (TS1.out _ _ _ _ _ ST.out.core1).mono ?_); rintro e w10 ⟨rfl, F3, hk, m, hF⟩; replace ST := Lib.hid (ST.out.stepK1 hk m hF); clear hk m hF)
      | (go_at_call 23; (with_reducible refine (TS2.out _ _ _ _ _ ST.out.kor).mono ?_); rintro e w10 ⟨rfl, F5, hk, m, hF⟩; replace ST := Lib.hid (ST.out.stepD hk m hF); clear hk m hF)
      | ((with_reducible refine Step.gate_alloc (t := 25) rfl ?_); refine Step.freshAlloc rfl rfl (alloc_agg zero_hart) ?_; (first | (have this := ST.out.kor; intro g18 w2' b hg hb; clear this) | intro g20 w2' b hg hb); replace ST := Lib.hid (ST.out.made b hg hb); clear b hb hg)
      | ((with_reducible refine Step.gate_alloc (t := 46) rfl ?_); refine Step.freshAlloc rfl rfl (alloc_agg zero_ev) ?_; (first | (have this := ST.out.kor; intro g19 w2' b hg hb; clear this) | intro g21 w2' b hg hb); replace ST := Lib.hid (ST.out.made b hg hb); clear b hb hg)
      | ((with_reducible refine Step.gate_store (t := 25) rfl ?_); refine Step.storeAll ST.out.kn.at1 rfl rfl rfl rfl rfl (size_hart _) rfl (hc_all _) ?_; intro w3 nb m; replace ST := Lib.hid (ST.out.set (ST.out.kn.set1 nb m) m ⟨_, List.mem_of_getElem? (i := 1) rfl, rfl⟩ rfl); clear nb m)
      | ((with_reducible refine Step.gate_store (t := 46) rfl ?_); refine Step.storeAll (vs := #[.int .i64 0, .int .i64 0, .int .u64 0, .int .u64 a, .bool false, .bool true]) ST.out.kn.at0 rfl rfl rfl rfl rfl size_ev rfl rfl ?_; intro w3 nb m; replace ST := Lib.hid (ST.out.set (ST.out.kn.set0 nb m) m ⟨_, List.mem_of_getElem? (i := 0) rfl, rfl⟩ rfl); clear nb m)
      | ((with_reducible refine Step.gate_store (t := 46) rfl ?_); refine Step.storeAll (vs := #[.int .i64 0, .int .i64 0, .int .u64 0, .int .u64 0, .bool false, .bool false]) ST.out.kn.at0 rfl rfl rfl rfl rfl size_ev rfl rfl ?_; intro w3 nb m; replace ST := Lib.hid (ST.out.set (ST.out.kn.set0 nb m) m ⟨_, List.mem_of_getElem? (i := 0) rfl, rfl⟩ rfl); clear nb m)
      | ((with_reducible refine Step.gate_load (t := 38) rfl ?_); refine Step.loadG ST.out.kn.at2 rfl rfl rfl pl_pr3 rfl ?_)
      | (go_at_call 29; refine (Co.rwrite ST.out a v 4 4 rfl ha hv (by decide) hh).mono ?_; rintro e w10 ⟨rfl, F4, d⟩; replace ST := Lib.hid d; clear d)
      | ((with_reducible refine Step.gate_load (t := 46) rfl ?_); refine loadAllW ST.out.kn.at2 rfl rfl rfl Tryz.underlying46 rfl size_ev ?_)
      | ((with_reducible refine Step.gate_load (t := 46) rfl ?_); refine loadAllW ST.out.kn.at0 rfl rfl rfl Tryz.underlying46 rfl size_ev ?_)
      | ((with_reducible refine Step.gate_load (t := 40) rfl ?_); refine loadAllW ST.out.kn.at4 rfl rfl rfl Tryz.underlying40 rfl size_two ?_)
      | ((with_reducible refine Step.gate_load (t := 22) rfl ?_); refine Step.loadG ST.out.kn.at1 rfl rfl rfl pl_u64 r7 ?_)
      | ((with_reducible refine Step.gate_load (t := 22) rfl ?_); refine Step.loadG ST.out.kn.at1 rfl rfl rfl pl_u64 r32 ?_)
      | (go_at_call 26; (with_reducible refine (same_dk ST.out).mono ?_); rintro e w' ⟨rfl, hb⟩; replace ST := Lib.hid (ST.out.call hb); clear hb)
      | (go_at_call 15; (with_reducible refine (awake_any _).mono ?_); rintro e w' ⟨rfl, hb⟩; replace ST := Lib.hid (ST.out.call hb); clear hb))
    all_goals go_ret
    all_goals exact ⟨rfl, ST.out.below⟩)
set_option maxHeartbeats 8000000 in
theorem mem_law8 (h C H1 H2 : Hrt) (mX : Nat → Int) (size at_ v V p a w2 : Int) (sg : Bool) (hV : v = V) (hp : 0 ≤ p ∧ p < 504) (ea : a = 2147483712 + 8 * p) (hv : 0 ≤ v ∧ v < 18446744073709551616) (hw : W32 w2) (TP1 : Hid (∀ w, Calls Tryz.prog 25 #[.int .i64 size, .int .i64 4] w fun e w' => e = .returned (.int .i64 3) ∧ w = w')) (TP2 : Hid (∀ w, Calls Tryz.prog 25 #[.int .i64 at_, .int .i64 504] w fun e w' => e = .returned (.int .i64 p) ∧ w = w')) (hcm : wr (wr (cm 1 (fun _ => (0, 0)) 0) 0 4 6467619) ((2147483652 : Int) - 2147483648).toNat 4 w2 = wr mX 0 4 6467619)
    (TC0 : Hid (∀ w, Calls Tryz.prog 24 #[.agg (hc h)] w fun e w' => e = .returned (.agg (hc C)) ∧ Below w.heap.size w w'))
    (TE : Hid (∀ W, Calls Tryz.prog 27 #[.agg #[.int .i64 6, .int .i64 0, .int .i64 7, .int .i64 5, .int .i64 0, .int .i64 0, .int .i64 8, .bool true]] W fun e w' => e = .returned (.tuple #[.int .u32 w2, .bool true]) ∧ Below W.heap.size W w'))
    (TS1 : Hid (∀ (X : World) (gc gm : Nat) (tv : Value) (F : Nat → Prop), Kor X gc gm tv 0 2147483648 1 (wr mX 0 4 6467619) F → Calls Tryz.prog 23 #[.pointer (some ⟨gc, 0, none⟩), .agg (hc { C with x := xup (xup C.x 5 a) 6 v }), .int .u64 0] X fun e w' => e = .returned (.tuple #[.agg (hc H1), .agg #[.int .i64 0, .int .i64 0, .int .u64 0, .int .u64 a, .bool false, .bool true]]) ∧ ∃ F', Kor w' gc gm tv 0 2147483648 1 (wr (wr mX 0 4 6467619) (a - 2147483648).toNat 8 v) F' ∧ Mod (fun k => k = gc ∨ F k) X w' ∧ ∀ k, F' k → F k ∨ X.heap.size ≤ k))
    (TS2 : Hid (∀ (X : World) (gc gm : Nat) (tv : Value) (F : Nat → Prop), Kor X gc gm tv 0 2147483648 1 (wr (wr mX 0 4 6467619) (a - 2147483648).toNat 8 v) F → Calls Tryz.prog 23 #[.pointer (some ⟨gc, 0, none⟩), .agg (hc H1), .int .u64 0] X fun e w' => e = .returned (.tuple #[.agg (hc H2), .agg #[.int .i64 0, .int .i64 0, .int .u64 0, .int .u64 0, .bool false, .bool false]]) ∧ ∃ F', Kor w' gc gm tv 0 2147483648 1 (wr (wr mX 0 4 6467619) (a - 2147483648).toNat 8 v) F' ∧ Mod (fun k => k = gc ∨ F k) X w' ∧ ∀ k, F' k → F k ∨ X.heap.size ≤ k))
    (r7 : (hc H2)[7]? = some (.int .u64 V)) (r32 : (hc H2)[32]? = some (.int .u64 2147483656)) (W : World) :
    Calls Tryz.prog 9 #[.agg (hc h), .int .i64 size, .int .i64 at_, .int .u64 v, .bool sg] W fun e w' => e = .returned (.bool true) ∧ Below W.heap.size W w' := by
  have ha : 0 ≤ a ∧ a < 18446744073709551616 := by omega
  have hh : hasB 2147483648 1 a 8 = true := by simp only [hasB, decide_eq_true_eq]; omega
  have q1 : IntKind.i64.wrap (8 * p) = 8 * p := IntWalk.i64_in _ (by omega)
  have q2 : IntKind.i64.wrap (2147483712 + 8 * p) = a := by rw [ea]; exact IntWalk.i64_in _ (by omega)
  have q3 : IntKind.u64.wrap a = a := IntWalk.u64_in _ (by omega)
  have e32 := wrap32 hw
  have HW := Lib.hid hw
  obtain ⟨v0, v1⟩ := hv
  have hv : 0 ≤ v ∧ v < 18446744073709551616 := ⟨v0, v1⟩
  clear hp hw ea
  cases sg
  all_goals (first | simp only [Bool.and_true, Bool.and_false, Bool.false_eq_true, if_false, if_true, Bool.true_and, Bool.false_and] at hV | skip)
  all_goals subst hV
  all_goals (
    go_enter Tryz.func9, Tryz.ntmps9
    have ST := Lib.hid (Kn.nil (S := Step.Nil) (W := W))
    go_wp2_with (first
      | ((with_reducible refine Step.gate_box (t := 25) rfl ?_); refine Step.fresh (cs := hc h) (T := 25) rfl ?hr ?_; (case hr => first | (go_simp; done) | (go_simp; rfl)); intro g5 w1 b hg hb; replace ST := Lib.hid (ST.out.made b hg hb); clear b hb; clear hg)
      | ((with_reducible refine Step.gate_load (t := 25) rfl ?_); refine Step.loadAll ST.out.at0 rfl rfl rfl Tryz.underlying25 rfl (size_hart _) ?_)
      | (go_at_call 24; (with_reducible refine (TC0.out _).mono ?_); rintro e w' ⟨rfl, hb⟩; replace ST := Lib.hid (ST.out.call hb); clear hb)
      | ((with_reducible refine Step.gate_store (t := 25) rfl ?_); refine Step.storeAll ST.out.at0 rfl rfl rfl rfl rfl (size_hart _) rfl (hc_all _) ?_; intro w3 nb m; replace ST := Lib.hid (ST.out.set0 nb m); clear nb m)
      | ((with_reducible refine Step.gate_build (t := 53) rfl ?_); refine Step.freshSlice (cs := #[.int .i64 1, .int .i64 2, .int .i64 4, .int .i64 8]) (T := 3) (n := 4) (m := 4) rfl ?hr ?_; (case hr => first | (go_simp; done) | (go_simp; rfl)); intro gs w1 b hg hb; replace ST := Lib.hid (ST.out.made b hg hb); clear b hg hb)
      | (go_at_call 25; (with_reducible refine (TP1.out _).mono ?_); rintro e w' ⟨rfl, rfl⟩)
      | (go_at_call 25; (with_reducible refine (TP2.out _).mono ?_); rintro e w' ⟨rfl, rfl⟩)
      | ((with_reducible refine Step.gate_load (t := 3) rfl ?_); refine Step.load ST.out.at0 rfl rfl rfl pl_int rfl ?_)
      | ((with_reducible refine Step.gate_store (t := 22) rfl ?_); refine Step.store ST.out.at1 rfl rfl rfl rfl rfl pl_u64 rfl rfl ?_; intro w3 nb m; simp [go_sem, set_x5, set_x6] at nb; replace ST := Lib.hid (ST.out.set1 nb m); clear nb m)
      | (go_at_call 22; (with_reducible refine (one_st8 _).mono ?_); rintro e w9 ⟨gc, gt, h1, h2, F1, F2, rfl, d⟩; replace ST := Lib.hid (DK.join ST.out d); clear d)
      | ((with_reducible refine Step.gate_alloc (t := 40) rfl ?_); refine Step.freshAlloc rfl rfl (Duo.alloc_agg Duo.zero_two) ?_; intro g14 w2' b hg hb; replace ST := Lib.hid (ST.out.made b hg hb); clear b hb hg)
      | ((with_reducible refine Step.gate_store (t := 40) rfl ?_); refine Step.storeAll (vs := #[.pointer (some ⟨h1, 0, none⟩), .pointer (some ⟨h2, 0, none⟩)]) ST.out.kn.at0 rfl rfl rfl rfl rfl size_two rfl rfl ?_; intro w3 nb m; replace ST := Lib.hid (ST.out.set (ST.out.kn.set0 nb m) m ⟨_, List.mem_of_getElem? (i := 0) rfl, rfl⟩ rfl); clear nb m)
      | ((with_reducible refine Step.gate_load (t := 40) rfl ?_); refine Step.loadAll ST.out.kn.at0 rfl rfl rfl Tryz.underlying40 rfl size_two ?_)
      | ((with_reducible refine Step.gate_load (t := 25) rfl ?_); refine Step.loadAll ST.out.kn.at3 rfl rfl rfl Tryz.underlying25 rfl (size_hart _) ?_)
      | ((with_reducible refine Step.gate_load (t := 25) rfl ?_); refine Step.loadAll ST.out.kn.at1 rfl rfl rfl Tryz.underlying25 rfl (size_hart _) ?_)
      | (go_at_call 27; (with_reducible refine (TE.out _).mono ?_); rintro e w' ⟨rfl, hb⟩; replace ST := Lib.hid (ST.out.call hb); clear hb)
      | (go_at_call 28; refine (Duo.wboth4 ST.out.duo 2147483652 w2 (by decide) (by have := HW.out.out; omega) (by decide)).mono ?_; rintro e w9 ⟨rfl, F1', F2', hd, f1, f2, m⟩; rw [hcm] at hd; replace ST := Lib.hid (ST.out.duoTurn hd f1 f2 m); clear hd f1 f2 m)
      | (go_at_call 23; (with_reducible refine (TS1.out _ _ _ _ _ ST.out.core1).mono ?_); rintro e w10 ⟨rfl, F3, hk, m, hF⟩; replace ST := Lib.hid (ST.out.stepK1 hk m hF); clear hk m hF)
      | (go_at_call 23; (with_reducible refine (TS2.out _ _ _ _ _ ST.out.kor).mono ?_); rintro e w10 ⟨rfl, F5, hk, m, hF⟩; replace ST := Lib.hid (ST.out.stepD hk m hF); clear hk m hF)
      | ((with_reducible refine Step.gate_alloc (t := 25) rfl ?_); refine Step.freshAlloc rfl rfl (alloc_agg zero_hart) ?_; (first | (have this := ST.out.kor; intro g18 w2' b hg hb; clear this) | intro g20 w2' b hg hb); replace ST := Lib.hid (ST.out.made b hg hb); clear b hb hg)
      | ((with_reducible refine Step.gate_alloc (t := 46) rfl ?_); refine Step.freshAlloc rfl rfl (alloc_agg zero_ev) ?_; (first | (have this := ST.out.kor; intro g19 w2' b hg hb; clear this) | intro g21 w2' b hg hb); replace ST := Lib.hid (ST.out.made b hg hb); clear b hb hg)
      | ((with_reducible refine Step.gate_store (t := 25) rfl ?_); refine Step.storeAll ST.out.kn.at1 rfl rfl rfl rfl rfl (size_hart _) rfl (hc_all _) ?_; intro w3 nb m; replace ST := Lib.hid (ST.out.set (ST.out.kn.set1 nb m) m ⟨_, List.mem_of_getElem? (i := 1) rfl, rfl⟩ rfl); clear nb m)
      | ((with_reducible refine Step.gate_store (t := 46) rfl ?_); refine Step.storeAll (vs := #[.int .i64 0, .int .i64 0, .int .u64 0, .int .u64 a, .bool false, .bool true]) ST.out.kn.at0 rfl rfl rfl rfl rfl size_ev rfl rfl ?_; intro w3 nb m; replace ST := Lib.hid (ST.out.set (ST.out.kn.set0 nb m) m ⟨_, List.mem_of_getElem? (i := 0) rfl, rfl⟩ rfl); clear nb m)
      | ((with_reducible refine Step.gate_store (t := 46) rfl ?_); refine Step.storeAll (vs := #[.int .i64 0, .int .i64 0, .int .u64 0, .int .u64 0, .bool false, .bool false]) ST.out.kn.at0 rfl rfl rfl rfl rfl size_ev rfl rfl ?_; intro w3 nb m; replace ST := Lib.hid (ST.out.set (ST.out.kn.set0 nb m) m ⟨_, List.mem_of_getElem? (i := 0) rfl, rfl⟩ rfl); clear nb m)
      | ((with_reducible refine Step.gate_load (t := 38) rfl ?_); refine Step.loadG ST.out.kn.at2 rfl rfl rfl pl_pr3 rfl ?_)
      | (go_at_call 29; refine (Co.rwrite ST.out a v 8 8 rfl ha hv (by decide) hh).mono ?_; rintro e w10 ⟨rfl, F4, d⟩; replace ST := Lib.hid d; clear d)
      | ((with_reducible refine Step.gate_load (t := 46) rfl ?_); refine loadAllW ST.out.kn.at2 rfl rfl rfl Tryz.underlying46 rfl size_ev ?_)
      | ((with_reducible refine Step.gate_load (t := 46) rfl ?_); refine loadAllW ST.out.kn.at0 rfl rfl rfl Tryz.underlying46 rfl size_ev ?_)
      | ((with_reducible refine Step.gate_load (t := 40) rfl ?_); refine loadAllW ST.out.kn.at4 rfl rfl rfl Tryz.underlying40 rfl size_two ?_)
      | ((with_reducible refine Step.gate_load (t := 22) rfl ?_); refine Step.loadG ST.out.kn.at1 rfl rfl rfl pl_u64 r7 ?_)
      | ((with_reducible refine Step.gate_load (t := 22) rfl ?_); refine Step.loadG ST.out.kn.at1 rfl rfl rfl pl_u64 r32 ?_)
      | (go_at_call 26; (with_reducible refine (same_dk ST.out).mono ?_); rintro e w' ⟨rfl, hb⟩; replace ST := Lib.hid (ST.out.call hb); clear hb)
      | (go_at_call 15; (with_reducible refine (awake_any _).mono ?_); rintro e w' ⟨rfl, hb⟩; replace ST := Lib.hid (ST.out.call hb); clear hb))
    all_goals go_ret
    all_goals exact ⟨rfl, ST.out.below⟩)
theorem ext_1 (v : Int) (sg : Bool) : extV (v % 256 ^ 1) ((1 : Nat) : Int) sg = if (sg && (v % 256 / 128 == 1)) = true then IntKind.u64.wrap (v % 256 - 256) else v % 256 := by
  rw [show (256 : Int) ^ 1 = 256 by decide]
  have hm : v % 256 % 256 = v % 256 := by omega
  unfold extV
  rw [IntKind.wrap_u64]
  cases sg
  · simp
  · by_cases hb : v % 256 / 128 = 1
    · have h2 : v % 256 % 256 ≥ 128 := by omega
      simp [hb]
      omega
    · have h2 : ¬ v % 256 % 256 ≥ 128 := by omega
      simp [hb]
      omega
theorem ext_2 (v : Int) (sg : Bool) : extV (v % 256 ^ 2) ((2 : Nat) : Int) sg = if (sg && (v % 65536 / 32768 == 1)) = true then IntKind.u64.wrap (v % 65536 - 65536) else v % 65536 := by
  rw [show (256 : Int) ^ 2 = 65536 by decide]
  have hm : v % 65536 % 65536 = v % 65536 := by omega
  unfold extV
  rw [IntKind.wrap_u64]
  cases sg
  · simp
  · by_cases hb : v % 65536 / 32768 = 1
    · have h2 : v % 65536 % 65536 ≥ 32768 := by omega
      simp [hb]
      omega
    · have h2 : ¬ v % 65536 % 65536 ≥ 32768 := by omega
      simp [hb]
      omega
theorem ext_4 (v : Int) (sg : Bool) : extV (v % 256 ^ 4) ((4 : Nat) : Int) sg = if (sg && (v % 4294967296 / 2147483648 == 1)) = true then IntKind.u64.wrap (v % 4294967296 - 4294967296) else v % 4294967296 := by
  rw [show (256 : Int) ^ 4 = 4294967296 by decide]
  have hm : v % 4294967296 % 4294967296 = v % 4294967296 := by omega
  unfold extV
  rw [IntKind.wrap_u64]
  cases sg
  · simp
  · by_cases hb : v % 4294967296 / 2147483648 = 1
    · have h2 : v % 4294967296 % 4294967296 ≥ 2147483648 := by omega
      simp [hb]
      omega
    · have h2 : ¬ v % 4294967296 % 4294967296 ≥ 2147483648 := by omega
      simp [hb]
      omega
theorem ext_8 {v : Int} (hv : 0 ≤ v ∧ v < 18446744073709551616) (sg : Bool) : v = extV (v % 256 ^ 8) ((8 : Nat) : Int) sg := by
  rw [show (256 : Int) ^ 8 = 18446744073709551616 by decide]
  unfold extV
  simp
  omega
theorem st_x {h : Hrt} {a v : Int} : (stH { calmH h with x := xup (xup (calmH h).x 5 a) 6 v }).x 5 = a := rfl
theorem calm56_fit {h : Hrt} (hf : Fit h) {a v : Int} (ha : U64 a) (hv : U64 v) : Fit { calmH h with x := xup (xup (calmH h).x 5 a) 6 v } := by
  have F0 := calm_fit hf
  refine ⟨fun i hi => ?_, F0.pc, F0.stvec, F0.sscr, F0.sepc, F0.scause, F0.stval, F0.sie, F0.sip, F0.satp, F0.resv⟩
  show U64 (xup (xup (calmH h).x 5 a) 6 v i)
  unfold xup
  split
  · exact hv
  · split
    · exact ha
    · exact F0.x i hi
theorem st_pc {h : Hrt} {a v : Int} : (ord (stH { calmH h with x := xup (xup (calmH h).x 5 a) 6 v })).pc = 2147483652 := by kernel_rfl
theorem st_sie {h : Hrt} {a v : Int} : (stH { calmH h with x := xup (xup (calmH h).x 5 a) 6 v }).sie = 0 := by kernel_rfl
theorem ld_r7 {C : Hrt} {V : Int} : (hc (ldH C V))[7]? = some (.int .u64 V) := rfl
theorem ld_pc {h : Hrt} {a v V : Int} : (hc (ldH (stH { calmH h with x := xup (xup (calmH h).x 5 a) 6 v }) V))[32]? = some (.int .u64 2147483656) := by kernel_rfl
theorem mem_core1 (h : Hrt) (hf : Fit h) (size at_ v w2 : Int) (sg : Bool) (e : size % 4 = 0) (h1 : -9223372036854775808 ≤ size ∧ size < 9223372036854775808) (h2 : -9223372036854775808 ≤ at_ ∧ at_ < 9223372036854775808) (hv : U64 v) (hw : W32 w2) (hd : dec w2 = some ⟨6, 0, 7, 5, 0, 0, 1, sg⟩) (hop : fd w2 6 0 = 3)
    (TE : Hid (∀ W, Calls Tryz.prog 27 #[.agg #[.int .i64 6, .int .i64 0, .int .i64 7, .int .i64 5, .int .i64 0, .int .i64 0, .int .i64 1, .bool sg]] W fun e w' => e = .returned (.tuple #[.int .u32 w2, .bool true]) ∧ Below W.heap.size W w')) (W : World) :
    Calls Tryz.prog 9 #[.agg (hc h), .int .i64 size, .int .i64 at_, .int .u64 v, .bool sg] W fun e w' => e = .returned (.bool true) ∧ Below W.heap.size W w' := by
  have P : ∀ x m q, 0 < m → m < 9223372036854775808 → x % m = q → -9223372036854775808 ≤ x ∧ x < 9223372036854775808 → ∀ w, Calls Tryz.prog 25 #[.int .i64 x, .int .i64 m] w fun e w' => e = .returned (.int .i64 q) ∧ w = w' := fun x m q h0 hm e hx w => e ▸ Mem.place_any x m h0 hx hm w
  obtain ⟨a, ea⟩ : ∃ a, a = 2147483712 + 1 * (at_ % 4032) := ⟨_, rfl⟩
  have ha : U64 a := ⟨by omega, by omega⟩
  have hal : a % 1 = 0 := by omega
  have hh : hasB 2147483648 1 a 1 = true := by simp only [hasB, decide_eq_true_eq]; omega
  have F := calm56_fit hf ha hv
  obtain ⟨m1, m2, m3⟩ := mem_at (u := 6455331) (w2 := w2) (v := v) a 1 (by omega) hw
  have hp := hv.out
  exact mem_law1 h (calmH h) (stH { calmH h with x := xup (xup (calmH h).x 5 a) 6 v }) (ldH (stH { calmH h with x := xup (xup (calmH h).x 5 a) 6 v }) (extV (v % 256 ^ 1) ((1 : Nat) : Int) sg)) (wr (cm 1 (fun _ => (0, 0)) 0) 4 4 w2) size at_ v _ (at_ % 4032) a w2 sg _ (ext_1 v sg) rfl (by omega) ea hp hw (Lib.hid (P size 4 _ (by decide) (by decide) e h1)) (Lib.hid (P at_ 4032 _ (by decide) (by decide) rfl h2)) (wr_comm (cm 1 (fun _ => (0, 0)) 0) (a := 0) (b := 4) (s := 4) (t := 4) (by decide) 6455331 w2) (Lib.hid (calm_any h hf)) TE
    (Lib.hid (fun X gc gm tv F1 hk => step_st hk { calmH h with x := xup (xup (calmH h).x 5 a) 6 v } F rfl rfl rfl ⟨by decide, by decide⟩ st1_d (by kernel_rfl) 1 rfl (by decide) a v rfl rfl ha hal hh))
    (Lib.hid (fun X gc gm tv F1 hk => step_ld hk (stH { calmH h with x := xup (xup (calmH h).x 5 a) 6 v }) (stH_fit F) st_pc m1 m2 st_sie rfl hw hd hop 1 rfl (by decide) a st_x ha hal hh (v % 256 ^ 1) m3 ⟨by omega, by omega⟩))
    ld_r7 ld_pc W
theorem mem_core2 (h : Hrt) (hf : Fit h) (size at_ v w2 : Int) (sg : Bool) (e : size % 4 = 1) (h1 : -9223372036854775808 ≤ size ∧ size < 9223372036854775808) (h2 : -9223372036854775808 ≤ at_ ∧ at_ < 9223372036854775808) (hv : U64 v) (hw : W32 w2) (hd : dec w2 = some ⟨6, 0, 7, 5, 0, 0, 2, sg⟩) (hop : fd w2 6 0 = 3)
    (TE : Hid (∀ W, Calls Tryz.prog 27 #[.agg #[.int .i64 6, .int .i64 0, .int .i64 7, .int .i64 5, .int .i64 0, .int .i64 0, .int .i64 2, .bool sg]] W fun e w' => e = .returned (.tuple #[.int .u32 w2, .bool true]) ∧ Below W.heap.size W w')) (W : World) :
    Calls Tryz.prog 9 #[.agg (hc h), .int .i64 size, .int .i64 at_, .int .u64 v, .bool sg] W fun e w' => e = .returned (.bool true) ∧ Below W.heap.size W w' := by
  have P : ∀ x m q, 0 < m → m < 9223372036854775808 → x % m = q → -9223372036854775808 ≤ x ∧ x < 9223372036854775808 → ∀ w, Calls Tryz.prog 25 #[.int .i64 x, .int .i64 m] w fun e w' => e = .returned (.int .i64 q) ∧ w = w' := fun x m q h0 hm e hx w => e ▸ Mem.place_any x m h0 hx hm w
  obtain ⟨a, ea⟩ : ∃ a, a = 2147483712 + 2 * (at_ % 2016) := ⟨_, rfl⟩
  have ha : U64 a := ⟨by omega, by omega⟩
  have hal : a % 2 = 0 := by omega
  have hh : hasB 2147483648 1 a 2 = true := by simp only [hasB, decide_eq_true_eq]; omega
  have F := calm56_fit hf ha hv
  obtain ⟨m1, m2, m3⟩ := mem_at (u := 6459427) (w2 := w2) (v := v) a 2 (by omega) hw
  have hp := hv.out
  exact mem_law2 h (calmH h) (stH { calmH h with x := xup (xup (calmH h).x 5 a) 6 v }) (ldH (stH { calmH h with x := xup (xup (calmH h).x 5 a) 6 v }) (extV (v % 256 ^ 2) ((2 : Nat) : Int) sg)) (wr (cm 1 (fun _ => (0, 0)) 0) 4 4 w2) size at_ v _ (at_ % 2016) a w2 sg _ (ext_2 v sg) rfl (by omega) ea hp hw (Lib.hid (P size 4 _ (by decide) (by decide) e h1)) (Lib.hid (P at_ 2016 _ (by decide) (by decide) rfl h2)) (wr_comm (cm 1 (fun _ => (0, 0)) 0) (a := 0) (b := 4) (s := 4) (t := 4) (by decide) 6459427 w2) (Lib.hid (calm_any h hf)) TE
    (Lib.hid (fun X gc gm tv F1 hk => step_st hk { calmH h with x := xup (xup (calmH h).x 5 a) 6 v } F rfl rfl rfl ⟨by decide, by decide⟩ st2_d (by kernel_rfl) 2 rfl (by decide) a v rfl rfl ha hal hh))
    (Lib.hid (fun X gc gm tv F1 hk => step_ld hk (stH { calmH h with x := xup (xup (calmH h).x 5 a) 6 v }) (stH_fit F) st_pc m1 m2 st_sie rfl hw hd hop 2 rfl (by decide) a st_x ha hal hh (v % 256 ^ 2) m3 ⟨by omega, by omega⟩))
    ld_r7 ld_pc W
theorem mem_core4 (h : Hrt) (hf : Fit h) (size at_ v w2 : Int) (sg : Bool) (e : size % 4 = 2) (h1 : -9223372036854775808 ≤ size ∧ size < 9223372036854775808) (h2 : -9223372036854775808 ≤ at_ ∧ at_ < 9223372036854775808) (hv : U64 v) (hw : W32 w2) (hd : dec w2 = some ⟨6, 0, 7, 5, 0, 0, 4, sg⟩) (hop : fd w2 6 0 = 3)
    (TE : Hid (∀ W, Calls Tryz.prog 27 #[.agg #[.int .i64 6, .int .i64 0, .int .i64 7, .int .i64 5, .int .i64 0, .int .i64 0, .int .i64 4, .bool sg]] W fun e w' => e = .returned (.tuple #[.int .u32 w2, .bool true]) ∧ Below W.heap.size W w')) (W : World) :
    Calls Tryz.prog 9 #[.agg (hc h), .int .i64 size, .int .i64 at_, .int .u64 v, .bool sg] W fun e w' => e = .returned (.bool true) ∧ Below W.heap.size W w' := by
  have P : ∀ x m q, 0 < m → m < 9223372036854775808 → x % m = q → -9223372036854775808 ≤ x ∧ x < 9223372036854775808 → ∀ w, Calls Tryz.prog 25 #[.int .i64 x, .int .i64 m] w fun e w' => e = .returned (.int .i64 q) ∧ w = w' := fun x m q h0 hm e hx w => e ▸ Mem.place_any x m h0 hx hm w
  obtain ⟨a, ea⟩ : ∃ a, a = 2147483712 + 4 * (at_ % 1008) := ⟨_, rfl⟩
  have ha : U64 a := ⟨by omega, by omega⟩
  have hal : a % 4 = 0 := by omega
  have hh : hasB 2147483648 1 a 4 = true := by simp only [hasB, decide_eq_true_eq]; omega
  have F := calm56_fit hf ha hv
  obtain ⟨m1, m2, m3⟩ := mem_at (u := 6463523) (w2 := w2) (v := v) a 4 (by omega) hw
  have hp := hv.out
  exact mem_law4 h (calmH h) (stH { calmH h with x := xup (xup (calmH h).x 5 a) 6 v }) (ldH (stH { calmH h with x := xup (xup (calmH h).x 5 a) 6 v }) (extV (v % 256 ^ 4) ((4 : Nat) : Int) sg)) (wr (cm 1 (fun _ => (0, 0)) 0) 4 4 w2) size at_ v _ (at_ % 1008) a w2 sg _ (ext_4 v sg) rfl (by omega) ea hp hw (Lib.hid (P size 4 _ (by decide) (by decide) e h1)) (Lib.hid (P at_ 1008 _ (by decide) (by decide) rfl h2)) (wr_comm (cm 1 (fun _ => (0, 0)) 0) (a := 0) (b := 4) (s := 4) (t := 4) (by decide) 6463523 w2) (Lib.hid (calm_any h hf)) TE
    (Lib.hid (fun X gc gm tv F1 hk => step_st hk { calmH h with x := xup (xup (calmH h).x 5 a) 6 v } F rfl rfl rfl ⟨by decide, by decide⟩ st4_d (by kernel_rfl) 4 rfl (by decide) a v rfl rfl ha hal hh))
    (Lib.hid (fun X gc gm tv F1 hk => step_ld hk (stH { calmH h with x := xup (xup (calmH h).x 5 a) 6 v }) (stH_fit F) st_pc m1 m2 st_sie rfl hw hd hop 4 rfl (by decide) a st_x ha hal hh (v % 256 ^ 4) m3 ⟨by omega, by omega⟩))
    ld_r7 ld_pc W
theorem mem_core8 (h : Hrt) (hf : Fit h) (size at_ v w2 : Int) (sg sl : Bool) (e : size % 4 = 3) (h1 : -9223372036854775808 ≤ size ∧ size < 9223372036854775808) (h2 : -9223372036854775808 ≤ at_ ∧ at_ < 9223372036854775808) (hv : U64 v) (hw : W32 w2) (hd : dec w2 = some ⟨6, 0, 7, 5, 0, 0, 8, true⟩) (hop : fd w2 6 0 = 3)
    (TE : Hid (∀ W, Calls Tryz.prog 27 #[.agg #[.int .i64 6, .int .i64 0, .int .i64 7, .int .i64 5, .int .i64 0, .int .i64 0, .int .i64 8, .bool true]] W fun e w' => e = .returned (.tuple #[.int .u32 w2, .bool true]) ∧ Below W.heap.size W w')) (W : World) :
    Calls Tryz.prog 9 #[.agg (hc h), .int .i64 size, .int .i64 at_, .int .u64 v, .bool sl] W fun e w' => e = .returned (.bool true) ∧ Below W.heap.size W w' := by
  have P : ∀ x m q, 0 < m → m < 9223372036854775808 → x % m = q → -9223372036854775808 ≤ x ∧ x < 9223372036854775808 → ∀ w, Calls Tryz.prog 25 #[.int .i64 x, .int .i64 m] w fun e w' => e = .returned (.int .i64 q) ∧ w = w' := fun x m q h0 hm e hx w => e ▸ Mem.place_any x m h0 hx hm w
  obtain ⟨a, ea⟩ : ∃ a, a = 2147483712 + 8 * (at_ % 504) := ⟨_, rfl⟩
  have ha : U64 a := ⟨by omega, by omega⟩
  have hal : a % 8 = 0 := by omega
  have hh : hasB 2147483648 1 a 8 = true := by simp only [hasB, decide_eq_true_eq]; omega
  have F := calm56_fit hf ha hv
  obtain ⟨m1, m2, m3⟩ := mem_at (u := 6467619) (w2 := w2) (v := v) a 8 (by omega) hw
  have hp := hv.out
  exact mem_law8 h (calmH h) (stH { calmH h with x := xup (xup (calmH h).x 5 a) 6 v }) (ldH (stH { calmH h with x := xup (xup (calmH h).x 5 a) 6 v }) (extV (v % 256 ^ 8) ((8 : Nat) : Int) true)) (wr (cm 1 (fun _ => (0, 0)) 0) 4 4 w2) size at_ v _ (at_ % 504) a w2 sl (ext_8 hp true) (by omega) ea hp hw (Lib.hid (P size 4 _ (by decide) (by decide) e h1)) (Lib.hid (P at_ 504 _ (by decide) (by decide) rfl h2)) (wr_comm (cm 1 (fun _ => (0, 0)) 0) (a := 0) (b := 4) (s := 4) (t := 4) (by decide) 6467619 w2) (Lib.hid (calm_any h hf)) TE
    (Lib.hid (fun X gc gm tv F1 hk => step_st hk { calmH h with x := xup (xup (calmH h).x 5 a) 6 v } F rfl rfl rfl ⟨by decide, by decide⟩ st8_d (by kernel_rfl) 8 rfl (by decide) a v rfl rfl ha hal hh))
    (Lib.hid (fun X gc gm tv F1 hk => step_ld hk (stH { calmH h with x := xup (xup (calmH h).x 5 a) 6 v }) (stH_fit F) st_pc m1 m2 st_sie rfl hw hd hop 8 rfl (by decide) a st_x ha hal hh (v % 256 ^ 8) m3 ⟨by omega, by omega⟩))
    ld_r7 ld_pc W
theorem memories_any (h : Hrt) (hf : Fit h) (size at_ v : Int) (sg : Bool) (h1 : -9223372036854775808 ≤ size ∧ size < 9223372036854775808) (h2 : -9223372036854775808 ≤ at_ ∧ at_ < 9223372036854775808) (hv : U64 v) (W : World) : Calls Tryz.prog 9 #[.agg (hc h), .int .i64 size, .int .i64 at_, .int .u64 v, .bool sg] W fun e w' => e = .returned (.bool true) ∧ Below W.heap.size W w' := by
  rcases (show size % 4 = 0 ∨ size % 4 = 1 ∨ size % 4 = 2 ∨ size % 4 = 3 by omega) with e | e | e | e
  · cases sg
    · exact mem_core1 h hf size at_ v 181123 false e h1 h2 hv ⟨by decide, by decide⟩ ld1u_d (by kernel_rfl) (Lib.hid enc_ld1u) W
    · exact mem_core1 h hf size at_ v 164739 true e h1 h2 hv ⟨by decide, by decide⟩ ld1s_d (by kernel_rfl) (Lib.hid enc_ld1s) W
  · cases sg
    · exact mem_core2 h hf size at_ v 185219 false e h1 h2 hv ⟨by decide, by decide⟩ ld2u_d (by kernel_rfl) (Lib.hid enc_ld2u) W
    · exact mem_core2 h hf size at_ v 168835 true e h1 h2 hv ⟨by decide, by decide⟩ ld2s_d (by kernel_rfl) (Lib.hid enc_ld2s) W
  · cases sg
    · exact mem_core4 h hf size at_ v 189315 false e h1 h2 hv ⟨by decide, by decide⟩ ld4u_d (by kernel_rfl) (Lib.hid enc_ld4u) W
    · exact mem_core4 h hf size at_ v 172931 true e h1 h2 hv ⟨by decide, by decide⟩ ld4s_d (by kernel_rfl) (Lib.hid enc_ld4s) W
  · exact mem_core8 h hf size at_ v 177027 true sg e h1 h2 hv ⟨by decide, by decide⟩ ld8s_d (by kernel_rfl) (Lib.hid enc_ld8s) W
end Go.Proofs.YthkodjkkcgdmfaaGreat.Hart
end
