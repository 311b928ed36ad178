/- Expand of the program, and InstFull, whatever the half (written by genexpc.py). -/
import Derived.Test.YtdhmfjcijcdnjaaExpB
import Derived.Test.YtdhmfjcijcdnjaaAwake
import Derived.Test.YtdhmfjcijcdnjaaOpenInst
namespace Go.Proofs.Ytdhmfjcijcdnjaa.Enc
open Go Go.RowKit Go.Proofs.Ytdhmfjcijcdnjaa.Step
set_option linter.unusedVariables false
set_option linter.unusedSimpArgs false
set_option maxRecDepth 100000

set_option maxHeartbeats 2000000 in
theorem expand_any (c : Int) (hc : H16 c) (w : World) : Calls Try.prog 31 #[.int .u16 c] w fun e w' => Says (expD c) e ∧ Below w.heap.size w w' := by
  have T0 := Lib.hid (first_any c hc)
  have T1 := Lib.hid (second_any c hc)
  have T2 := Lib.hid (third_any c hc)
  have hm := u16_mask3 hc.out
  have hq : c % 4 = 0 ∨ c % 4 = 1 ∨ c % 4 = 2 ∨ c % 4 = 3 := by omega
  unfold expD
  generalize e0 (fd c 15 13) c = d0 at *
  generalize e1 (fd c 15 13) c = d1 at *
  generalize e2 (fd c 15 13) c = d2 at *
  clear hc
  rcases hq with hq | hq | hq | hq
  all_goals rw [hq] at hm
  · rw [if_pos hq]
    clear hq
    go_enter Try.func31, Try.ntmps31
    go_wp2_with (first
      | (go_at_call 52; (with_reducible refine (T0.out _).mono ?_); rintro e w' ⟨⟨⟨r1, r2, r3, r4, r5, r6, r7, r8⟩, ok, rfl, hd4⟩, hb⟩; replace ST := Lib.hid (ST.out.call hb); clear hb; simp only [Ins.cells])
      | (go_at_call 53; (with_reducible refine (T1.out _).mono ?_); rintro e w' ⟨⟨⟨r1, r2, r3, r4, r5, r6, r7, r8⟩, ok, rfl, hd4⟩, hb⟩; replace ST := Lib.hid (ST.out.call hb); clear hb; simp only [Ins.cells])
      | (go_at_call 54; (with_reducible refine (T2.out _).mono ?_); rintro e w' ⟨⟨⟨r1, r2, r3, r4, r5, r6, r7, r8⟩, ok, rfl, hd4⟩, hb⟩; replace ST := Lib.hid (ST.out.call hb); clear hb; simp only [Ins.cells])
      | ((with_reducible refine Step.gate_alloc (t := 24) rfl ?_); refine Step.freshAlloc rfl rfl (alloc_agg zero_inst) ?_; intro g1 w1 b hg hb; have ST := Lib.hid (S1.made b hg hb); clear b hg hb)
      | ((with_reducible refine Step.gate_store (t := 3) rfl ?_); refine Step.store ST.out.one rfl rfl rfl rfl rfl pl_int rfl rfl ?_; intro w3 nb m; replace ST := Lib.hid (ST.out.set1 nb m); clear nb m)
      | ((with_reducible refine Step.gate_store (t := 4) rfl ?_); refine Step.store ST.out.one rfl rfl rfl rfl rfl pl_bool rfl rfl ?_; intro w3 nb m; replace ST := Lib.hid (ST.out.set1 nb m); clear nb m)
      | ((with_reducible refine Step.gate_store (t := 24) rfl ?_); refine Step.storeAll ST.out.one rfl rfl rfl rfl rfl size_inst rfl rfl ?_; intro w3 nb m; replace ST := Lib.hid (ST.out.set1 nb m); clear nb m)
      | ((with_reducible refine Step.gate_load (t := 3) rfl ?_); refine Step.load ST.out.one rfl rfl rfl pl_int rfl ?_)
      | ((with_reducible refine Step.gate_load (t := 4) rfl ?_); refine Step.load ST.out.one rfl rfl rfl pl_bool rfl ?_)
      | ((with_reducible refine Step.gate_load (t := 24) rfl ?_); refine Step.loadAll ST.out.one rfl rfl rfl Try.underlying24 rfl size_inst ?_))
    refine bodyPost_ret (results_row_tmp rfl _ _ g1 _ _ _ rfl ST.out.one Try.underlying24 rfl size_inst) rfl ⟨⟨⟨_, _, _, _, _, _, _, _⟩, _, rfl, ?_⟩, ST.out.below⟩
    first
      | exact hd4
      | rfl
  · rw [if_neg (by omega), if_pos hq]
    clear hq
    go_enter Try.func31, Try.ntmps31
    go_wp2_with (first
      | (go_at_call 52; (with_reducible refine (T0.out _).mono ?_); rintro e w' ⟨⟨⟨r1, r2, r3, r4, r5, r6, r7, r8⟩, ok, rfl, hd4⟩, hb⟩; replace ST := Lib.hid (ST.out.call hb); clear hb; simp only [Ins.cells])
      | (go_at_call 53; (with_reducible refine (T1.out _).mono ?_); rintro e w' ⟨⟨⟨r1, r2, r3, r4, r5, r6, r7, r8⟩, ok, rfl, hd4⟩, hb⟩; replace ST := Lib.hid (ST.out.call hb); clear hb; simp only [Ins.cells])
      | (go_at_call 54; (with_reducible refine (T2.out _).mono ?_); rintro e w' ⟨⟨⟨r1, r2, r3, r4, r5, r6, r7, r8⟩, ok, rfl, hd4⟩, hb⟩; replace ST := Lib.hid (ST.out.call hb); clear hb; simp only [Ins.cells])
      | ((with_reducible refine Step.gate_alloc (t := 24) rfl ?_); refine Step.freshAlloc rfl rfl (alloc_agg zero_inst) ?_; intro g1 w1 b hg hb; have ST := Lib.hid (S1.made b hg hb); clear b hg hb)
      | ((with_reducible refine Step.gate_store (t := 3) rfl ?_); refine Step.store ST.out.one rfl rfl rfl rfl rfl pl_int rfl rfl ?_; intro w3 nb m; replace ST := Lib.hid (ST.out.set1 nb m); clear nb m)
      | ((with_reducible refine Step.gate_store (t := 4) rfl ?_); refine Step.store ST.out.one rfl rfl rfl rfl rfl pl_bool rfl rfl ?_; intro w3 nb m; replace ST := Lib.hid (ST.out.set1 nb m); clear nb m)
      | ((with_reducible refine Step.gate_store (t := 24) rfl ?_); refine Step.storeAll ST.out.one rfl rfl rfl rfl rfl size_inst rfl rfl ?_; intro w3 nb m; replace ST := Lib.hid (ST.out.set1 nb m); clear nb m)
      | ((with_reducible refine Step.gate_load (t := 3) rfl ?_); refine Step.load ST.out.one rfl rfl rfl pl_int rfl ?_)
      | ((with_reducible refine Step.gate_load (t := 4) rfl ?_); refine Step.load ST.out.one rfl rfl rfl pl_bool rfl ?_)
      | ((with_reducible refine Step.gate_load (t := 24) rfl ?_); refine Step.loadAll ST.out.one rfl rfl rfl Try.underlying24 rfl size_inst ?_))
    refine bodyPost_ret (results_row_tmp rfl _ _ g1 _ _ _ rfl ST.out.one Try.underlying24 rfl size_inst) rfl ⟨⟨⟨_, _, _, _, _, _, _, _⟩, _, rfl, ?_⟩, ST.out.below⟩
    first
      | exact hd4
      | rfl
  · rw [if_neg (by omega), if_neg (by omega), if_pos hq]
    clear hq
    go_enter Try.func31, Try.ntmps31
    go_wp2_with (first
      | (go_at_call 52; (with_reducible refine (T0.out _).mono ?_); rintro e w' ⟨⟨⟨r1, r2, r3, r4, r5, r6, r7, r8⟩, ok, rfl, hd4⟩, hb⟩; replace ST := Lib.hid (ST.out.call hb); clear hb; simp only [Ins.cells])
      | (go_at_call 53; (with_reducible refine (T1.out _).mono ?_); rintro e w' ⟨⟨⟨r1, r2, r3, r4, r5, r6, r7, r8⟩, ok, rfl, hd4⟩, hb⟩; replace ST := Lib.hid (ST.out.call hb); clear hb; simp only [Ins.cells])
      | (go_at_call 54; (with_reducible refine (T2.out _).mono ?_); rintro e w' ⟨⟨⟨r1, r2, r3, r4, r5, r6, r7, r8⟩, ok, rfl, hd4⟩, hb⟩; replace ST := Lib.hid (ST.out.call hb); clear hb; simp only [Ins.cells])
      | ((with_reducible refine Step.gate_alloc (t := 24) rfl ?_); refine Step.freshAlloc rfl rfl (alloc_agg zero_inst) ?_; intro g1 w1 b hg hb; have ST := Lib.hid (S1.made b hg hb); clear b hg hb)
      | ((with_reducible refine Step.gate_store (t := 3) rfl ?_); refine Step.store ST.out.one rfl rfl rfl rfl rfl pl_int rfl rfl ?_; intro w3 nb m; replace ST := Lib.hid (ST.out.set1 nb m); clear nb m)
      | ((with_reducible refine Step.gate_store (t := 4) rfl ?_); refine Step.store ST.out.one rfl rfl rfl rfl rfl pl_bool rfl rfl ?_; intro w3 nb m; replace ST := Lib.hid (ST.out.set1 nb m); clear nb m)
      | ((with_reducible refine Step.gate_store (t := 24) rfl ?_); refine Step.storeAll ST.out.one rfl rfl rfl rfl rfl size_inst rfl rfl ?_; intro w3 nb m; replace ST := Lib.hid (ST.out.set1 nb m); clear nb m)
      | ((with_reducible refine Step.gate_load (t := 3) rfl ?_); refine Step.load ST.out.one rfl rfl rfl pl_int rfl ?_)
      | ((with_reducible refine Step.gate_load (t := 4) rfl ?_); refine Step.load ST.out.one rfl rfl rfl pl_bool rfl ?_)
      | ((with_reducible refine Step.gate_load (t := 24) rfl ?_); refine Step.loadAll ST.out.one rfl rfl rfl Try.underlying24 rfl size_inst ?_))
    refine bodyPost_ret (results_row_tmp rfl _ _ g1 _ _ _ rfl ST.out.one Try.underlying24 rfl size_inst) rfl ⟨⟨⟨_, _, _, _, _, _, _, _⟩, _, rfl, ?_⟩, ST.out.below⟩
    first
      | exact hd4
      | rfl
  · rw [if_neg (by omega), if_neg (by omega), if_neg (by omega)]
    clear hq
    go_enter Try.func31, Try.ntmps31
    go_wp2_with (first
      | (go_at_call 52; (with_reducible refine (T0.out _).mono ?_); rintro e w' ⟨⟨⟨r1, r2, r3, r4, r5, r6, r7, r8⟩, ok, rfl, hd4⟩, hb⟩; replace ST := Lib.hid (ST.out.call hb); clear hb; simp only [Ins.cells])
      | (go_at_call 53; (with_reducible refine (T1.out _).mono ?_); rintro e w' ⟨⟨⟨r1, r2, r3, r4, r5, r6, r7, r8⟩, ok, rfl, hd4⟩, hb⟩; replace ST := Lib.hid (ST.out.call hb); clear hb; simp only [Ins.cells])
      | (go_at_call 54; (with_reducible refine (T2.out _).mono ?_); rintro e w' ⟨⟨⟨r1, r2, r3, r4, r5, r6, r7, r8⟩, ok, rfl, hd4⟩, hb⟩; replace ST := Lib.hid (ST.out.call hb); clear hb; simp only [Ins.cells])
      | ((with_reducible refine Step.gate_alloc (t := 24) rfl ?_); refine Step.freshAlloc rfl rfl (alloc_agg zero_inst) ?_; intro g1 w1 b hg hb; have ST := Lib.hid (S1.made b hg hb); clear b hg hb)
      | ((with_reducible refine Step.gate_store (t := 3) rfl ?_); refine Step.store ST.out.one rfl rfl rfl rfl rfl pl_int rfl rfl ?_; intro w3 nb m; replace ST := Lib.hid (ST.out.set1 nb m); clear nb m)
      | ((with_reducible refine Step.gate_store (t := 4) rfl ?_); refine Step.store ST.out.one rfl rfl rfl rfl rfl pl_bool rfl rfl ?_; intro w3 nb m; replace ST := Lib.hid (ST.out.set1 nb m); clear nb m)
      | ((with_reducible refine Step.gate_store (t := 24) rfl ?_); refine Step.storeAll ST.out.one rfl rfl rfl rfl rfl size_inst rfl rfl ?_; intro w3 nb m; replace ST := Lib.hid (ST.out.set1 nb m); clear nb m)
      | ((with_reducible refine Step.gate_load (t := 3) rfl ?_); refine Step.load ST.out.one rfl rfl rfl pl_int rfl ?_)
      | ((with_reducible refine Step.gate_load (t := 4) rfl ?_); refine Step.load ST.out.one rfl rfl rfl pl_bool rfl ?_)
      | ((with_reducible refine Step.gate_load (t := 24) rfl ?_); refine Step.loadAll ST.out.one rfl rfl rfl Try.underlying24 rfl size_inst ?_))
    refine bodyPost_ret (results_row_tmp rfl _ _ g1 _ _ _ rfl ST.out.one Try.underlying24 rfl size_inst) rfl ⟨⟨⟨_, _, _, _, _, _, _, _⟩, _, rfl, ?_⟩, ST.out.below⟩
    first
      | exact hd4
      | rfl

/-- What Expand tells. -/
inductive Xp (d : Option Ins) : Value → Prop
  | none (h : d = none) : Xp d (.tuple #[.int .u32 0, .bool false])
  | no (i : Ins) (h : d = some i) (hn : dec (encP i) ≠ some i) : Xp d (.tuple #[.int .u32 0, .bool false])
  | yes (i : Ins) (h : d = some i) (hy : dec (encP i) = some i) : Xp d (.tuple #[.int .u32 (encP i), .bool true])
set_option maxHeartbeats 2000000 in
theorem Expand_any (c : Int) (hc : H16 c) (w : World) : Calls Try.prog 14 #[.int .u16 c] w fun e w' => (∃ v, Xp (expD c) v ∧ e = .returned v) ∧ Below w.heap.size w w' := by
  have T0 := Lib.hid (expand_any c hc)
  clear hc
  generalize expD c = d at *
  have HB := Lib.hid (Below.refl _ _ : Below w.heap.size w w)
  cases d with
  | none =>
    go_enter Try.func14, Try.ntmps14
    go_wp2_with (first
      | (go_at_call 31; (with_reducible refine (T0.out _).mono ?_); rintro e w' ⟨⟨⟨r1, r2, r3, r4, r5, r6, r7, r8⟩, ok, rfl, hd4⟩, hb⟩; replace HB := Lib.hid (below_below HB.out hb); clear hb; simp only [Ins.cells]; cases ok <;> simp only [Bool.false_eq_true, if_false, if_true] at hd4)
      | ((with_reducible refine Step.gate_alloc (t := 24) rfl ?_); refine Step.freshAlloc rfl rfl (alloc_agg zero_inst) ?_; intro g1 w1 b hg hb; have ST := Lib.hid (S1.mk (below_below HB.out hb) b (Nat.le_trans HB.out.size hg)); clear b hg hb)
      | ((with_reducible refine Step.gate_store (t := 3) rfl ?_); refine Step.store ST.out.one rfl rfl rfl rfl rfl pl_int rfl rfl ?_; intro w3 nb m; replace ST := Lib.hid (ST.out.set1 nb m); clear nb m)
      | ((with_reducible refine Step.gate_store (t := 4) rfl ?_); refine Step.store ST.out.one rfl rfl rfl rfl rfl pl_bool rfl rfl ?_; intro w3 nb m; replace ST := Lib.hid (ST.out.set1 nb m); clear nb m)
      | ((with_reducible refine Step.gate_store (t := 24) rfl ?_); refine Step.storeAll ST.out.one rfl rfl rfl rfl rfl size_inst rfl rfl ?_; intro w3 nb m; replace ST := Lib.hid (ST.out.set1 nb m); clear nb m)
      | ((with_reducible refine Step.gate_load (t := 3) rfl ?_); refine Step.load ST.out.one rfl rfl rfl pl_int rfl ?_)
      | ((with_reducible refine Step.gate_load (t := 4) rfl ?_); refine Step.load ST.out.one rfl rfl rfl pl_bool rfl ?_)
      | ((with_reducible refine Step.gate_load (t := 24) rfl ?_); refine Step.loadAll ST.out.one rfl rfl rfl Try.underlying24 rfl size_inst ?_))
    · go_ret2
      exact ⟨⟨_, .none rfl, rfl⟩, ST.out.below⟩
    · cases hd4
  | some i =>
    by_cases hd : dec (encP i) = some i
    · have TE := Lib.hid (Encode_yes i (encP i) (encP_w i) hd (Lib.hid (encode_any i)))
      have HX := Lib.hid (Xp.yes i rfl hd)
      clear hd
      generalize encP i = v at *
      obtain ⟨k, fn, rd, rs1, rs2, imm, sz, sg⟩ := i
      simp only [Ins.cells] at TE
      go_enter Try.func14, Try.ntmps14
      go_wp2_with (first
        | (go_at_call 31; (with_reducible refine (T0.out _).mono ?_); rintro e w' ⟨⟨j, ok, rfl, hd4⟩, hb⟩; replace HB := Lib.hid (below_below HB.out hb); clear hb; cases ok <;> simp only [Bool.false_eq_true, if_false, if_true, Option.some.injEq, reduceCtorEq] at hd4; subst hd4; simp only [Ins.cells])
        | (go_at_call 12; (with_reducible refine (TE.out _).mono ?_); rintro e w' ⟨rfl, hb⟩; replace ST := Lib.hid (ST.out.call hb); clear hb)
        | ((with_reducible refine Step.gate_alloc (t := 24) rfl ?_); refine Step.freshAlloc rfl rfl (alloc_agg zero_inst) ?_; intro g1 w1 b hg hb; have ST := Lib.hid (S1.mk (below_below HB.out hb) b (Nat.le_trans HB.out.size hg)); clear b hg hb)
        | ((with_reducible refine Step.gate_store (t := 3) rfl ?_); refine Step.store ST.out.one rfl rfl rfl rfl rfl pl_int rfl rfl ?_; intro w3 nb m; replace ST := Lib.hid (ST.out.set1 nb m); clear nb m)
        | ((with_reducible refine Step.gate_store (t := 4) rfl ?_); refine Step.store ST.out.one rfl rfl rfl rfl rfl pl_bool rfl rfl ?_; intro w3 nb m; replace ST := Lib.hid (ST.out.set1 nb m); clear nb m)
        | ((with_reducible refine Step.gate_store (t := 24) rfl ?_); refine Step.storeAll ST.out.one rfl rfl rfl rfl rfl size_inst rfl rfl ?_; intro w3 nb m; replace ST := Lib.hid (ST.out.set1 nb m); clear nb m)
        | ((with_reducible refine Step.gate_load (t := 3) rfl ?_); refine Step.load ST.out.one rfl rfl rfl pl_int rfl ?_)
        | ((with_reducible refine Step.gate_load (t := 4) rfl ?_); refine Step.load ST.out.one rfl rfl rfl pl_bool rfl ?_)
        | ((with_reducible refine Step.gate_load (t := 24) rfl ?_); refine Step.loadAll ST.out.one rfl rfl rfl Try.underlying24 rfl size_inst ?_))
      go_ret2
      exact ⟨⟨_, HX.out, rfl⟩, ST.out.below⟩
    · have TE := Lib.hid (Encode_no i (encP i) (encP_w i) hd (Lib.hid (encode_any i)))
      have HX := Lib.hid (Xp.no i rfl hd)
      clear hd
      obtain ⟨k, fn, rd, rs1, rs2, imm, sz, sg⟩ := i
      simp only [Ins.cells] at TE
      go_enter Try.func14, Try.ntmps14
      go_wp2_with (first
        | (go_at_call 31; (with_reducible refine (T0.out _).mono ?_); rintro e w' ⟨⟨j, ok, rfl, hd4⟩, hb⟩; replace HB := Lib.hid (below_below HB.out hb); clear hb; cases ok <;> simp only [Bool.false_eq_true, if_false, if_true, Option.some.injEq, reduceCtorEq] at hd4; subst hd4; simp only [Ins.cells])
        | (go_at_call 12; (with_reducible refine (TE.out _).mono ?_); rintro e w' ⟨rfl, hb⟩; replace ST := Lib.hid (ST.out.call hb); clear hb)
        | ((with_reducible refine Step.gate_alloc (t := 24) rfl ?_); refine Step.freshAlloc rfl rfl (alloc_agg zero_inst) ?_; intro g1 w1 b hg hb; have ST := Lib.hid (S1.mk (below_below HB.out hb) b (Nat.le_trans HB.out.size hg)); clear b hg hb)
        | ((with_reducible refine Step.gate_store (t := 3) rfl ?_); refine Step.store ST.out.one rfl rfl rfl rfl rfl pl_int rfl rfl ?_; intro w3 nb m; replace ST := Lib.hid (ST.out.set1 nb m); clear nb m)
        | ((with_reducible refine Step.gate_store (t := 4) rfl ?_); refine Step.store ST.out.one rfl rfl rfl rfl rfl pl_bool rfl rfl ?_; intro w3 nb m; replace ST := Lib.hid (ST.out.set1 nb m); clear nb m)
        | ((with_reducible refine Step.gate_store (t := 24) rfl ?_); refine Step.storeAll ST.out.one rfl rfl rfl rfl rfl size_inst rfl rfl ?_; intro w3 nb m; replace ST := Lib.hid (ST.out.set1 nb m); clear nb m)
        | ((with_reducible refine Step.gate_load (t := 3) rfl ?_); refine Step.load ST.out.one rfl rfl rfl pl_int rfl ?_)
        | ((with_reducible refine Step.gate_load (t := 4) rfl ?_); refine Step.load ST.out.one rfl rfl rfl pl_bool rfl ?_)
        | ((with_reducible refine Step.gate_load (t := 24) rfl ?_); refine Step.loadAll ST.out.one rfl rfl rfl Try.underlying24 rfl size_inst ?_))
      go_ret2
      exact ⟨⟨_, HX.out, rfl⟩, ST.out.below⟩
end Go.Proofs.Ytdhmfjcijcdnjaa.Enc
