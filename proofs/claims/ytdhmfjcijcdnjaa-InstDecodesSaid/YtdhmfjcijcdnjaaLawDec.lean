/- InstDecodes, whatever the word. -/
import Derived.Test.YtdhmfjcijcdnjaaAwake
import Derived.Test.YtdhmfjcijcdnjaaDecS
namespace Go.Proofs.Ytdhmfjcijcdnjaa.Enc
open Go Go.RowKit Go.Proofs.Ytdhmfjcijcdnjaa.Step
set_option linter.unusedVariables false
set_option linter.unusedSimpArgs false
set_option maxRecDepth 100000

theorem u32_bd {v : Int} (h : (Lit.int .u32 v).wf = true) : W32 v := by
  simp only [Lit.wf, IntKind.min, IntKind.max, IntKind.signed, IntKind.bits, Bool.and_eq_true, decide_eq_true_eq] at h
  exact ⟨by simpa using h.1, by have := h.2; simp at this; omega⟩

theorem decodes_any (a : Int) (w : World) (h0 : (Lit.int .u32 a).wf = true) : Calls Try.prog 3 #[.int .u32 a] w fun e w' => e = .returned (.bool true) ∧ Below w.heap.size w w' := by
  have T0 := Lib.hid (Decode_any a (u32_bd h0))
  have T1 := Lib.hid (rDecode_any a (u32_bd h0))
  clear h0
  generalize dec a = d at *
  cases d with
  | none =>
    simp only [told, Ins.zero, Ins.cells] at T0 T1
    have HB := Lib.hid (Below.refl _ _ : Below w.heap.size w w)
    have TA := Lib.hid awake_any
    go_enter Try.func3, Try.ntmps3
    go_wp2_with (first
      | (go_at_call 9; (with_reducible refine (T0.out _).mono ?_); rintro e w' ⟨rfl, hb⟩; have st_ := Lib.hid (ST.out.call hb); clear ST hb; have ST := st_)
      | (go_at_call 9; (with_reducible refine (T0.out _).mono ?_); rintro e w' ⟨rfl, hb⟩; have hb_ := Lib.hid (below_below HB.out hb); clear HB hb; have HB := hb_)
      | (go_at_call 10; (with_reducible refine (T1.out _).mono ?_); rintro e w' ⟨rfl, hb⟩; have st_ := Lib.hid (ST.out.call hb); clear ST hb; have ST := st_)
      | (go_at_call 10; (with_reducible refine (T1.out _).mono ?_); rintro e w' ⟨rfl, hb⟩; have hb_ := Lib.hid (below_below HB.out hb); clear HB hb; have HB := hb_)
      | (go_at_call 11; (with_reducible refine (TA.out _).mono ?_); rintro e w' ⟨rfl, hb⟩; have st_ := Lib.hid (ST.out.call hb); clear ST hb; have ST := st_)
      | (go_at_call 11; (with_reducible refine (TA.out _).mono ?_); rintro e w' ⟨rfl, hb⟩; have hb_ := Lib.hid (below_below HB.out hb); clear HB hb; have HB := hb_)
      | ((with_reducible refine Step.gate_alloc (t := 24) rfl ?_); refine Step.freshAlloc rfl rfl (alloc_agg zero_inst) ?_; intro g2 w2 b hg hb; have st_ := Lib.hid (ST.out.more b hg hb); clear ST b hg hb; have ST := st_)
      | ((with_reducible refine Step.gate_alloc (t := 24) rfl ?_); refine Step.freshAlloc rfl rfl (alloc_agg zero_inst) ?_; intro g1 w1 b hg hb; have ST := Lib.hid (S1.mk (below_below HB.out hb) b (Nat.le_trans HB.out.size hg)); clear b hg hb)
      | ((with_reducible refine Step.gate_store (t := 3) rfl ?_); refine Step.store ST.out.one rfl rfl rfl rfl rfl pl_int rfl rfl ?_; intro w3 nb m; have st_ := Lib.hid (ST.out.set1 nb m); clear ST nb m; have ST := st_)
      | ((with_reducible refine Step.gate_store (t := 4) rfl ?_); refine Step.store ST.out.one rfl rfl rfl rfl rfl pl_bool rfl rfl ?_; intro w3 nb m; have st_ := Lib.hid (ST.out.set1 nb m); clear ST nb m; have ST := st_)
      | ((with_reducible refine Step.gate_store (t := 24) rfl ?_); refine Step.storeAll ST.out.one rfl rfl rfl rfl rfl size_inst rfl rfl ?_; intro w3 nb m; have st_ := Lib.hid (ST.out.set1 nb m); clear ST nb m; have ST := st_)
      | ((with_reducible refine Step.gate_load (t := 3) rfl ?_); refine Step.load ST.out.one rfl rfl rfl pl_int rfl ?_)
      | ((with_reducible refine Step.gate_load (t := 4) rfl ?_); refine Step.load ST.out.one rfl rfl rfl pl_bool rfl ?_)
      | ((with_reducible refine Step.gate_load (t := 24) rfl ?_); refine Step.loadAll ST.out.one rfl rfl rfl Try.underlying24 rfl size_inst ?_)
      | ((with_reducible refine Step.gate_store (t := 3) rfl ?_); refine Step.store ST.out.two rfl rfl rfl rfl rfl pl_int rfl rfl ?_; intro w3 nb m; have st_ := Lib.hid (ST.out.set2 nb m); clear ST nb m; have ST := st_)
      | ((with_reducible refine Step.gate_store (t := 4) rfl ?_); refine Step.store ST.out.two rfl rfl rfl rfl rfl pl_bool rfl rfl ?_; intro w3 nb m; have st_ := Lib.hid (ST.out.set2 nb m); clear ST nb m; have ST := st_)
      | ((with_reducible refine Step.gate_store (t := 24) rfl ?_); refine Step.storeAll ST.out.two rfl rfl rfl rfl rfl size_inst rfl rfl ?_; intro w3 nb m; have st_ := Lib.hid (ST.out.set2 nb m); clear ST nb m; have ST := st_)
      | ((with_reducible refine Step.gate_load (t := 3) rfl ?_); refine Step.load ST.out.two rfl rfl rfl pl_int rfl ?_)
      | ((with_reducible refine Step.gate_load (t := 4) rfl ?_); refine Step.load ST.out.two rfl rfl rfl pl_bool rfl ?_)
      | ((with_reducible refine Step.gate_load (t := 24) rfl ?_); refine Step.loadAll ST.out.two rfl rfl rfl Try.underlying24 rfl size_inst ?_)
      | ((with_reducible refine Step.gate_load (t := 24) rfl ?_); refine loadAllW ST.out.one rfl rfl rfl Try.underlying24 rfl size_inst ?_)
      | ((with_reducible refine Step.gate_load (t := 24) rfl ?_); refine loadAllW ST.out.two rfl rfl rfl Try.underlying24 rfl size_inst ?_))
    go_ret
    exact ⟨rfl, ST.out.below⟩
  | some j =>
    obtain ⟨r1, r2, r3, r4, r5, r6, r7, r8⟩ := j
    simp only [told, Ins.cells] at T0 T1
    have HB := Lib.hid (Below.refl _ _ : Below w.heap.size w w)
    have TA := Lib.hid awake_any
    go_enter Try.func3, Try.ntmps3
    go_wp2_with (first
      | (go_at_call 9; (with_reducible refine (T0.out _).mono ?_); rintro e w' ⟨rfl, hb⟩; have st_ := Lib.hid (ST.out.call hb); clear ST hb; have ST := st_)
      | (go_at_call 9; (with_reducible refine (T0.out _).mono ?_); rintro e w' ⟨rfl, hb⟩; have hb_ := Lib.hid (below_below HB.out hb); clear HB hb; have HB := hb_)
      | (go_at_call 10; (with_reducible refine (T1.out _).mono ?_); rintro e w' ⟨rfl, hb⟩; have st_ := Lib.hid (ST.out.call hb); clear ST hb; have ST := st_)
      | (go_at_call 10; (with_reducible refine (T1.out _).mono ?_); rintro e w' ⟨rfl, hb⟩; have hb_ := Lib.hid (below_below HB.out hb); clear HB hb; have HB := hb_)
      | (go_at_call 11; (with_reducible refine (TA.out _).mono ?_); rintro e w' ⟨rfl, hb⟩; have st_ := Lib.hid (ST.out.call hb); clear ST hb; have ST := st_)
      | (go_at_call 11; (with_reducible refine (TA.out _).mono ?_); rintro e w' ⟨rfl, hb⟩; have hb_ := Lib.hid (below_below HB.out hb); clear HB hb; have HB := hb_)
      | ((with_reducible refine Step.gate_alloc (t := 24) rfl ?_); refine Step.freshAlloc rfl rfl (alloc_agg zero_inst) ?_; intro g2 w2 b hg hb; have st_ := Lib.hid (ST.out.more b hg hb); clear ST b hg hb; have ST := st_)
      | ((with_reducible refine Step.gate_alloc (t := 24) rfl ?_); refine Step.freshAlloc rfl rfl (alloc_agg zero_inst) ?_; intro g1 w1 b hg hb; have ST := Lib.hid (S1.mk (below_below HB.out hb) b (Nat.le_trans HB.out.size hg)); clear b hg hb)
      | ((with_reducible refine Step.gate_store (t := 3) rfl ?_); refine Step.store ST.out.one rfl rfl rfl rfl rfl pl_int rfl rfl ?_; intro w3 nb m; have st_ := Lib.hid (ST.out.set1 nb m); clear ST nb m; have ST := st_)
      | ((with_reducible refine Step.gate_store (t := 4) rfl ?_); refine Step.store ST.out.one rfl rfl rfl rfl rfl pl_bool rfl rfl ?_; intro w3 nb m; have st_ := Lib.hid (ST.out.set1 nb m); clear ST nb m; have ST := st_)
      | ((with_reducible refine Step.gate_store (t := 24) rfl ?_); refine Step.storeAll ST.out.one rfl rfl rfl rfl rfl size_inst rfl rfl ?_; intro w3 nb m; have st_ := Lib.hid (ST.out.set1 nb m); clear ST nb m; have ST := st_)
      | ((with_reducible refine Step.gate_load (t := 3) rfl ?_); refine Step.load ST.out.one rfl rfl rfl pl_int rfl ?_)
      | ((with_reducible refine Step.gate_load (t := 4) rfl ?_); refine Step.load ST.out.one rfl rfl rfl pl_bool rfl ?_)
      | ((with_reducible refine Step.gate_load (t := 24) rfl ?_); refine Step.loadAll ST.out.one rfl rfl rfl Try.underlying24 rfl size_inst ?_)
      | ((with_reducible refine Step.gate_store (t := 3) rfl ?_); refine Step.store ST.out.two rfl rfl rfl rfl rfl pl_int rfl rfl ?_; intro w3 nb m; have st_ := Lib.hid (ST.out.set2 nb m); clear ST nb m; have ST := st_)
      | ((with_reducible refine Step.gate_store (t := 4) rfl ?_); refine Step.store ST.out.two rfl rfl rfl rfl rfl pl_bool rfl rfl ?_; intro w3 nb m; have st_ := Lib.hid (ST.out.set2 nb m); clear ST nb m; have ST := st_)
      | ((with_reducible refine Step.gate_store (t := 24) rfl ?_); refine Step.storeAll ST.out.two rfl rfl rfl rfl rfl size_inst rfl rfl ?_; intro w3 nb m; have st_ := Lib.hid (ST.out.set2 nb m); clear ST nb m; have ST := st_)
      | ((with_reducible refine Step.gate_load (t := 3) rfl ?_); refine Step.load ST.out.two rfl rfl rfl pl_int rfl ?_)
      | ((with_reducible refine Step.gate_load (t := 4) rfl ?_); refine Step.load ST.out.two rfl rfl rfl pl_bool rfl ?_)
      | ((with_reducible refine Step.gate_load (t := 24) rfl ?_); refine Step.loadAll ST.out.two rfl rfl rfl Try.underlying24 rfl size_inst ?_)
      | ((with_reducible refine Step.gate_load (t := 24) rfl ?_); refine loadAllW ST.out.one rfl rfl rfl Try.underlying24 rfl size_inst ?_)
      | ((with_reducible refine Step.gate_load (t := 24) rfl ?_); refine loadAllW ST.out.two rfl rfl rfl Try.underlying24 rfl size_inst ?_))
    go_ret
    exact ⟨rfl, ST.out.below⟩

end Go.Proofs.Ytdhmfjcijcdnjaa.Enc
