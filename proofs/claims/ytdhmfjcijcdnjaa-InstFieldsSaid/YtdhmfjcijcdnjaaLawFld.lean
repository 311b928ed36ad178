/- InstFields, whatever the word. -/
import Derived.Test.YtdhmfjcijcdnjaaAwake
import Derived.Test.YtdhmfjcijcdnjaaFits
namespace Go.Proofs.Ytdhmfjcijcdnjaa.Enc
open Go Go.RowKit Go.Proofs.Ytdhmfjcijcdnjaa.Step
set_option linter.unusedVariables false
set_option linter.unusedSimpArgs false
set_option maxRecDepth 100000

theorem u32_bd' {v : Int} (h : (Lit.int .u32 v).wf = true) : W32 v := by
  simp only [Lit.wf, IntKind.min, IntKind.max, IntKind.signed, IntKind.bits, Bool.and_eq_true, decide_eq_true_eq] at h
  exact ⟨by simpa using h.1, by have := h.2; simp at this; omega⟩
section
variable {P : Program} {ops : Array Oper} {rest : List Oper} {o : Oper} {a : Act} {W : World} {Q : Exit → Act → World → Prop}
/-- A cell is read, by an operation whose guard says yes. -/
theorem loadW {t : TypeId} {x : Operand} {g i : Nat} {cs : Array Value} {T : TypeId} {v : Value} (hB : Blk W g cs T) (hw : Region.wanted o (yielded ops a.tmps) = true) (ho : o.op = .load t x) (hx : a.eval x = .pointer (some ⟨g, i, none⟩)) (ht : plainT P t = true) (hv : cs[i]? = some v)
    (h : wpList P ops Q rest (a.put o.dst v) W) : wpList P ops Q (o :: rest) a W := by
  refine BigFrame.wpList_want hw fun K hK => ?_
  have h1 := run_load1 (P := P) ht ((hB.cell i).trans hv)
  have h2 : (execOp a.eval o).run P W = .ok (.value v) W := by simp [execOp, ho, hx, h1, Result.andThen]
  unfold Oper.wp; rw [h2]; exact hK _ _ h
end

set_option maxHeartbeats 4000000 in
theorem fields_any (a : Int) (w : World) (h0 : (Lit.int .u32 a).wf = true) : Calls Try.prog 8 #[.int .u32 a] w fun e w' => e = .returned (.bool true) ∧ Below w.heap.size w w' := by
  have T0 := Lib.hid (Decode_any a (u32_bd' h0))
  have HF : ∀ i, dec a = some i → Fits i := fun i => dec_fits
  clear h0
  generalize dec a = d at *
  cases d with
  | none =>
    clear HF
    simp only [told, Ins.zero, Ins.cells] at T0
    have HB := Lib.hid (Below.refl _ _ : Below w.heap.size w w)
    have TA := Lib.hid awake_any
    go_enter Try.func8, Try.ntmps8
    go_wp2_with (first
      | (go_at_call 9; (with_reducible refine (T0.out _).mono ?_); rintro e w' ⟨rfl, hb⟩; have st_ := Lib.hid (ST.out.call hb); clear ST hb; have ST := st_)
      | (go_at_call 9; (with_reducible refine (T0.out _).mono ?_); rintro e w' ⟨rfl, hb⟩; have hb_ := Lib.hid (below_below HB.out hb); clear HB hb; have HB := hb_)
      | ((with_reducible refine Step.gate_load (t := 3) rfl ?_); refine loadW ST.out.one rfl rfl rfl pl_int rfl ?_)
      | (go_at_call 11; (with_reducible refine (TA.out _).mono ?_); rintro e w' ⟨rfl, hb⟩; have st_ := Lib.hid (ST.out.call hb); clear ST hb; have ST := st_)
      | (go_at_call 11; (with_reducible refine (TA.out _).mono ?_); rintro e w' ⟨rfl, hb⟩; have hb_ := Lib.hid (below_below HB.out hb); clear HB hb; have HB := hb_)
      | ((with_reducible refine Step.gate_alloc (t := 24) rfl ?_); refine Step.freshAlloc rfl rfl (alloc_agg zero_inst) ?_; intro g2 w2 b hg hb; replace ST := Lib.hid (ST.out.more b hg hb); clear b hg hb)
      | ((with_reducible refine Step.gate_alloc (t := 24) rfl ?_); refine Step.freshAlloc rfl rfl (alloc_agg zero_inst) ?_; intro g1 w1 b hg hb; have ST := Lib.hid (S1.mk (below_below HB.out hb) b (Nat.le_trans HB.out.size hg)); clear b hg hb)
      | ((with_reducible refine Step.gate_store (t := 3) rfl ?_); refine Step.store ST.out.one rfl rfl rfl rfl rfl pl_int rfl rfl ?_; intro w3 nb m; replace ST := Lib.hid (ST.out.set1 nb m); clear nb m)
      | ((with_reducible refine Step.gate_store (t := 4) rfl ?_); refine Step.store ST.out.one rfl rfl rfl rfl rfl pl_bool rfl rfl ?_; intro w3 nb m; replace ST := Lib.hid (ST.out.set1 nb m); clear nb m)
      | ((with_reducible refine Step.gate_store (t := 24) rfl ?_); refine Step.storeAll ST.out.one rfl rfl rfl rfl rfl size_inst rfl rfl ?_; intro w3 nb m; replace ST := Lib.hid (ST.out.set1 nb m); clear nb m)
      | ((with_reducible refine Step.gate_load (t := 3) rfl ?_); refine Step.load ST.out.one rfl rfl rfl pl_int rfl ?_)
      | ((with_reducible refine Step.gate_load (t := 4) rfl ?_); refine Step.load ST.out.one rfl rfl rfl pl_bool rfl ?_)
      | ((with_reducible refine Step.gate_load (t := 24) rfl ?_); refine Step.loadAll ST.out.one rfl rfl rfl Try.underlying24 rfl size_inst ?_)
      | ((with_reducible refine Step.gate_store (t := 3) rfl ?_); refine Step.store ST.out.two rfl rfl rfl rfl rfl pl_int rfl rfl ?_; intro w3 nb m; replace ST := Lib.hid (ST.out.set2 nb m); clear nb m)
      | ((with_reducible refine Step.gate_store (t := 4) rfl ?_); refine Step.store ST.out.two rfl rfl rfl rfl rfl pl_bool rfl rfl ?_; intro w3 nb m; replace ST := Lib.hid (ST.out.set2 nb m); clear nb m)
      | ((with_reducible refine Step.gate_store (t := 24) rfl ?_); refine Step.storeAll ST.out.two rfl rfl rfl rfl rfl size_inst rfl rfl ?_; intro w3 nb m; replace ST := Lib.hid (ST.out.set2 nb m); clear nb m)
      | ((with_reducible refine Step.gate_load (t := 3) rfl ?_); refine Step.load ST.out.two rfl rfl rfl pl_int rfl ?_)
      | ((with_reducible refine Step.gate_load (t := 4) rfl ?_); refine Step.load ST.out.two rfl rfl rfl pl_bool rfl ?_)
      | ((with_reducible refine Step.gate_load (t := 24) rfl ?_); refine Step.loadAll ST.out.two rfl rfl rfl Try.underlying24 rfl size_inst ?_)
      | ((with_reducible refine Step.gate_load (t := 24) rfl ?_); refine loadAllW ST.out.one rfl rfl rfl Try.underlying24 rfl size_inst ?_)
      | ((with_reducible refine Step.gate_load (t := 24) rfl ?_); refine loadAllW ST.out.two rfl rfl rfl Try.underlying24 rfl size_inst ?_))
    go_ret
    exact ⟨rfl, ST.out.below⟩
  | some j =>
    have hf := HF j rfl
    clear HF
    obtain ⟨k, fn, rd, rs1, rs2, imm, sz, sg⟩ := j
    obtain ⟨⟨q1, q2⟩, ⟨q3, q4⟩, ⟨q5, q6⟩, ⟨q7, q8⟩, hz, hu, hj, hb, ho⟩ := hf
    simp only [told, Ins.cells] at T0 q1 q2 q3 q4 q5 q6 q7 q8 hz hu hj hb ho
    have d1 : decide (rd < 0) = false := decide_eq_false (by omega)
    have d2 : decide (31 < rd) = false := decide_eq_false (by omega)
    have d3 : decide (rs1 < 0) = false := decide_eq_false (by omega)
    have d4 : decide (31 < rs1) = false := decide_eq_false (by omega)
    have d5 : decide (rs2 < 0) = false := decide_eq_false (by omega)
    have d6 : decide (31 < rs2) = false := decide_eq_false (by omega)
    have d7 : decide (k < 1) = false := decide_eq_false (by omega)
    have d8 : decide (20 < k) = false := decide_eq_false (by omega)
    clear q1 q2 q3 q4 q5 q6
    have hm : ((imm % 4096 = 0) → imm.tmod 4096 = 0) ∧ ((imm % 2 = 0) → imm.tmod 2 = 0) := ⟨fun h => Int.tmod_eq_zero_of_dvd (Int.dvd_of_emod_eq_zero h), fun h => Int.tmod_eq_zero_of_dvd (Int.dvd_of_emod_eq_zero h)⟩
    have hk : (k = 1 ∨ k = 2) ∨ k = 3 ∨ k = 5 ∨ (¬ k = 1 ∧ ¬ k = 2 ∧ ¬ k = 3 ∧ ¬ k = 5) := by omega
    rcases hk with hk | hk | hk | ⟨k1, k2, k3, k5⟩
    · obtain ⟨m1, m2, m3⟩ := hu hk
      have c1 : imm.tmod 4096 = 0 := hm.1 m1
      have g1 : decide (-2147483648 ≤ imm) = true := decide_eq_true (by omega)
      have g2 : decide (imm < 2147483648) = true := decide_eq_true (by omega)
      rcases hk with hk | hk
      all_goals subst hk
      all_goals clear hu hj hb ho hm q7 q8
      all_goals rcases hz with hz | hz | hz | hz | hz
      all_goals subst hz
      all_goals (
        have HB := Lib.hid (Below.refl _ _ : Below w.heap.size w w)
        have TA := Lib.hid awake_any
        go_enter Try.func8, Try.ntmps8
        go_wp2_with (first
          | (go_at_call 9; (with_reducible refine (T0.out _).mono ?_); rintro e w' ⟨rfl, hb⟩; have st_ := Lib.hid (ST.out.call hb); clear ST hb; have ST := st_)
          | (go_at_call 9; (with_reducible refine (T0.out _).mono ?_); rintro e w' ⟨rfl, hb⟩; have hb_ := Lib.hid (below_below HB.out hb); clear HB hb; have HB := hb_)
          | ((with_reducible refine Step.gate_load (t := 3) rfl ?_); refine loadW ST.out.one rfl rfl rfl pl_int rfl ?_)
          | (go_at_call 11; (with_reducible refine (TA.out _).mono ?_); rintro e w' ⟨rfl, hb⟩; have st_ := Lib.hid (ST.out.call hb); clear ST hb; have ST := st_)
          | (go_at_call 11; (with_reducible refine (TA.out _).mono ?_); rintro e w' ⟨rfl, hb⟩; have hb_ := Lib.hid (below_below HB.out hb); clear HB hb; have HB := hb_)
          | ((with_reducible refine Step.gate_alloc (t := 24) rfl ?_); refine Step.freshAlloc rfl rfl (alloc_agg zero_inst) ?_; intro g2 w2 b hg hb; replace ST := Lib.hid (ST.out.more b hg hb); clear b hg hb)
          | ((with_reducible refine Step.gate_alloc (t := 24) rfl ?_); refine Step.freshAlloc rfl rfl (alloc_agg zero_inst) ?_; intro g1 w1 b hg hb; have ST := Lib.hid (S1.mk (below_below HB.out hb) b (Nat.le_trans HB.out.size hg)); clear b hg hb)
          | ((with_reducible refine Step.gate_store (t := 3) rfl ?_); refine Step.store ST.out.one rfl rfl rfl rfl rfl pl_int rfl rfl ?_; intro w3 nb m; replace ST := Lib.hid (ST.out.set1 nb m); clear nb m)
          | ((with_reducible refine Step.gate_store (t := 4) rfl ?_); refine Step.store ST.out.one rfl rfl rfl rfl rfl pl_bool rfl rfl ?_; intro w3 nb m; replace ST := Lib.hid (ST.out.set1 nb m); clear nb m)
          | ((with_reducible refine Step.gate_store (t := 24) rfl ?_); refine Step.storeAll ST.out.one rfl rfl rfl rfl rfl size_inst rfl rfl ?_; intro w3 nb m; replace ST := Lib.hid (ST.out.set1 nb m); clear nb m)
          | ((with_reducible refine Step.gate_load (t := 3) rfl ?_); refine Step.load ST.out.one rfl rfl rfl pl_int rfl ?_)
          | ((with_reducible refine Step.gate_load (t := 4) rfl ?_); refine Step.load ST.out.one rfl rfl rfl pl_bool rfl ?_)
          | ((with_reducible refine Step.gate_load (t := 24) rfl ?_); refine Step.loadAll ST.out.one rfl rfl rfl Try.underlying24 rfl size_inst ?_)
          | ((with_reducible refine Step.gate_store (t := 3) rfl ?_); refine Step.store ST.out.two rfl rfl rfl rfl rfl pl_int rfl rfl ?_; intro w3 nb m; replace ST := Lib.hid (ST.out.set2 nb m); clear nb m)
          | ((with_reducible refine Step.gate_store (t := 4) rfl ?_); refine Step.store ST.out.two rfl rfl rfl rfl rfl pl_bool rfl rfl ?_; intro w3 nb m; replace ST := Lib.hid (ST.out.set2 nb m); clear nb m)
          | ((with_reducible refine Step.gate_store (t := 24) rfl ?_); refine Step.storeAll ST.out.two rfl rfl rfl rfl rfl size_inst rfl rfl ?_; intro w3 nb m; replace ST := Lib.hid (ST.out.set2 nb m); clear nb m)
          | ((with_reducible refine Step.gate_load (t := 3) rfl ?_); refine Step.load ST.out.two rfl rfl rfl pl_int rfl ?_)
          | ((with_reducible refine Step.gate_load (t := 4) rfl ?_); refine Step.load ST.out.two rfl rfl rfl pl_bool rfl ?_)
          | ((with_reducible refine Step.gate_load (t := 24) rfl ?_); refine Step.loadAll ST.out.two rfl rfl rfl Try.underlying24 rfl size_inst ?_)
          | ((with_reducible refine Step.gate_load (t := 24) rfl ?_); refine loadAllW ST.out.one rfl rfl rfl Try.underlying24 rfl size_inst ?_)
          | ((with_reducible refine Step.gate_load (t := 24) rfl ?_); refine loadAllW ST.out.two rfl rfl rfl Try.underlying24 rfl size_inst ?_))
        go_ret
        exact ⟨rfl, ST.out.below⟩)
    · obtain ⟨m1, m2, m3⟩ := hj hk
      subst hk
      have c1 : imm.tmod 2 = 0 := hm.2 m1
      have g1 : decide (-1048576 ≤ imm) = true := decide_eq_true (by omega)
      have g2 : decide (imm < 1048576) = true := decide_eq_true (by omega)
      clear hu hj hb ho hm q7 q8
      rcases hz with hz | hz | hz | hz | hz
      all_goals subst hz
      all_goals (
        have HB := Lib.hid (Below.refl _ _ : Below w.heap.size w w)
        have TA := Lib.hid awake_any
        go_enter Try.func8, Try.ntmps8
        go_wp2_with (first
          | (go_at_call 9; (with_reducible refine (T0.out _).mono ?_); rintro e w' ⟨rfl, hb⟩; have st_ := Lib.hid (ST.out.call hb); clear ST hb; have ST := st_)
          | (go_at_call 9; (with_reducible refine (T0.out _).mono ?_); rintro e w' ⟨rfl, hb⟩; have hb_ := Lib.hid (below_below HB.out hb); clear HB hb; have HB := hb_)
          | ((with_reducible refine Step.gate_load (t := 3) rfl ?_); refine loadW ST.out.one rfl rfl rfl pl_int rfl ?_)
          | (go_at_call 11; (with_reducible refine (TA.out _).mono ?_); rintro e w' ⟨rfl, hb⟩; have st_ := Lib.hid (ST.out.call hb); clear ST hb; have ST := st_)
          | (go_at_call 11; (with_reducible refine (TA.out _).mono ?_); rintro e w' ⟨rfl, hb⟩; have hb_ := Lib.hid (below_below HB.out hb); clear HB hb; have HB := hb_)
          | ((with_reducible refine Step.gate_alloc (t := 24) rfl ?_); refine Step.freshAlloc rfl rfl (alloc_agg zero_inst) ?_; intro g2 w2 b hg hb; replace ST := Lib.hid (ST.out.more b hg hb); clear b hg hb)
          | ((with_reducible refine Step.gate_alloc (t := 24) rfl ?_); refine Step.freshAlloc rfl rfl (alloc_agg zero_inst) ?_; intro g1 w1 b hg hb; have ST := Lib.hid (S1.mk (below_below HB.out hb) b (Nat.le_trans HB.out.size hg)); clear b hg hb)
          | ((with_reducible refine Step.gate_store (t := 3) rfl ?_); refine Step.store ST.out.one rfl rfl rfl rfl rfl pl_int rfl rfl ?_; intro w3 nb m; replace ST := Lib.hid (ST.out.set1 nb m); clear nb m)
          | ((with_reducible refine Step.gate_store (t := 4) rfl ?_); refine Step.store ST.out.one rfl rfl rfl rfl rfl pl_bool rfl rfl ?_; intro w3 nb m; replace ST := Lib.hid (ST.out.set1 nb m); clear nb m)
          | ((with_reducible refine Step.gate_store (t := 24) rfl ?_); refine Step.storeAll ST.out.one rfl rfl rfl rfl rfl size_inst rfl rfl ?_; intro w3 nb m; replace ST := Lib.hid (ST.out.set1 nb m); clear nb m)
          | ((with_reducible refine Step.gate_load (t := 3) rfl ?_); refine Step.load ST.out.one rfl rfl rfl pl_int rfl ?_)
          | ((with_reducible refine Step.gate_load (t := 4) rfl ?_); refine Step.load ST.out.one rfl rfl rfl pl_bool rfl ?_)
          | ((with_reducible refine Step.gate_load (t := 24) rfl ?_); refine Step.loadAll ST.out.one rfl rfl rfl Try.underlying24 rfl size_inst ?_)
          | ((with_reducible refine Step.gate_store (t := 3) rfl ?_); refine Step.store ST.out.two rfl rfl rfl rfl rfl pl_int rfl rfl ?_; intro w3 nb m; replace ST := Lib.hid (ST.out.set2 nb m); clear nb m)
          | ((with_reducible refine Step.gate_store (t := 4) rfl ?_); refine Step.store ST.out.two rfl rfl rfl rfl rfl pl_bool rfl rfl ?_; intro w3 nb m; replace ST := Lib.hid (ST.out.set2 nb m); clear nb m)
          | ((with_reducible refine Step.gate_store (t := 24) rfl ?_); refine Step.storeAll ST.out.two rfl rfl rfl rfl rfl size_inst rfl rfl ?_; intro w3 nb m; replace ST := Lib.hid (ST.out.set2 nb m); clear nb m)
          | ((with_reducible refine Step.gate_load (t := 3) rfl ?_); refine Step.load ST.out.two rfl rfl rfl pl_int rfl ?_)
          | ((with_reducible refine Step.gate_load (t := 4) rfl ?_); refine Step.load ST.out.two rfl rfl rfl pl_bool rfl ?_)
          | ((with_reducible refine Step.gate_load (t := 24) rfl ?_); refine Step.loadAll ST.out.two rfl rfl rfl Try.underlying24 rfl size_inst ?_)
          | ((with_reducible refine Step.gate_load (t := 24) rfl ?_); refine loadAllW ST.out.one rfl rfl rfl Try.underlying24 rfl size_inst ?_)
          | ((with_reducible refine Step.gate_load (t := 24) rfl ?_); refine loadAllW ST.out.two rfl rfl rfl Try.underlying24 rfl size_inst ?_))
        go_ret
        exact ⟨rfl, ST.out.below⟩)
    · obtain ⟨m1, m2, m3⟩ := hb hk
      subst hk
      have c1 : imm.tmod 2 = 0 := hm.2 m1
      have g1 : decide (-4096 ≤ imm) = true := decide_eq_true (by omega)
      have g2 : decide (imm < 4096) = true := decide_eq_true (by omega)
      clear hu hj hb ho hm q7 q8
      rcases hz with hz | hz | hz | hz | hz
      all_goals subst hz
      all_goals (
        have HB := Lib.hid (Below.refl _ _ : Below w.heap.size w w)
        have TA := Lib.hid awake_any
        go_enter Try.func8, Try.ntmps8
        go_wp2_with (first
          | (go_at_call 9; (with_reducible refine (T0.out _).mono ?_); rintro e w' ⟨rfl, hb⟩; have st_ := Lib.hid (ST.out.call hb); clear ST hb; have ST := st_)
          | (go_at_call 9; (with_reducible refine (T0.out _).mono ?_); rintro e w' ⟨rfl, hb⟩; have hb_ := Lib.hid (below_below HB.out hb); clear HB hb; have HB := hb_)
          | ((with_reducible refine Step.gate_load (t := 3) rfl ?_); refine loadW ST.out.one rfl rfl rfl pl_int rfl ?_)
          | (go_at_call 11; (with_reducible refine (TA.out _).mono ?_); rintro e w' ⟨rfl, hb⟩; have st_ := Lib.hid (ST.out.call hb); clear ST hb; have ST := st_)
          | (go_at_call 11; (with_reducible refine (TA.out _).mono ?_); rintro e w' ⟨rfl, hb⟩; have hb_ := Lib.hid (below_below HB.out hb); clear HB hb; have HB := hb_)
          | ((with_reducible refine Step.gate_alloc (t := 24) rfl ?_); refine Step.freshAlloc rfl rfl (alloc_agg zero_inst) ?_; intro g2 w2 b hg hb; replace ST := Lib.hid (ST.out.more b hg hb); clear b hg hb)
          | ((with_reducible refine Step.gate_alloc (t := 24) rfl ?_); refine Step.freshAlloc rfl rfl (alloc_agg zero_inst) ?_; intro g1 w1 b hg hb; have ST := Lib.hid (S1.mk (below_below HB.out hb) b (Nat.le_trans HB.out.size hg)); clear b hg hb)
          | ((with_reducible refine Step.gate_store (t := 3) rfl ?_); refine Step.store ST.out.one rfl rfl rfl rfl rfl pl_int rfl rfl ?_; intro w3 nb m; replace ST := Lib.hid (ST.out.set1 nb m); clear nb m)
          | ((with_reducible refine Step.gate_store (t := 4) rfl ?_); refine Step.store ST.out.one rfl rfl rfl rfl rfl pl_bool rfl rfl ?_; intro w3 nb m; replace ST := Lib.hid (ST.out.set1 nb m); clear nb m)
          | ((with_reducible refine Step.gate_store (t := 24) rfl ?_); refine Step.storeAll ST.out.one rfl rfl rfl rfl rfl size_inst rfl rfl ?_; intro w3 nb m; replace ST := Lib.hid (ST.out.set1 nb m); clear nb m)
          | ((with_reducible refine Step.gate_load (t := 3) rfl ?_); refine Step.load ST.out.one rfl rfl rfl pl_int rfl ?_)
          | ((with_reducible refine Step.gate_load (t := 4) rfl ?_); refine Step.load ST.out.one rfl rfl rfl pl_bool rfl ?_)
          | ((with_reducible refine Step.gate_load (t := 24) rfl ?_); refine Step.loadAll ST.out.one rfl rfl rfl Try.underlying24 rfl size_inst ?_)
          | ((with_reducible refine Step.gate_store (t := 3) rfl ?_); refine Step.store ST.out.two rfl rfl rfl rfl rfl pl_int rfl rfl ?_; intro w3 nb m; replace ST := Lib.hid (ST.out.set2 nb m); clear nb m)
          | ((with_reducible refine Step.gate_store (t := 4) rfl ?_); refine Step.store ST.out.two rfl rfl rfl rfl rfl pl_bool rfl rfl ?_; intro w3 nb m; replace ST := Lib.hid (ST.out.set2 nb m); clear nb m)
          | ((with_reducible refine Step.gate_store (t := 24) rfl ?_); refine Step.storeAll ST.out.two rfl rfl rfl rfl rfl size_inst rfl rfl ?_; intro w3 nb m; replace ST := Lib.hid (ST.out.set2 nb m); clear nb m)
          | ((with_reducible refine Step.gate_load (t := 3) rfl ?_); refine Step.load ST.out.two rfl rfl rfl pl_int rfl ?_)
          | ((with_reducible refine Step.gate_load (t := 4) rfl ?_); refine Step.load ST.out.two rfl rfl rfl pl_bool rfl ?_)
          | ((with_reducible refine Step.gate_load (t := 24) rfl ?_); refine Step.loadAll ST.out.two rfl rfl rfl Try.underlying24 rfl size_inst ?_)
          | ((with_reducible refine Step.gate_load (t := 24) rfl ?_); refine loadAllW ST.out.one rfl rfl rfl Try.underlying24 rfl size_inst ?_)
          | ((with_reducible refine Step.gate_load (t := 24) rfl ?_); refine loadAllW ST.out.two rfl rfl rfl Try.underlying24 rfl size_inst ?_))
        go_ret
        exact ⟨rfl, ST.out.below⟩)
    · obtain ⟨m2, m3⟩ := ho k1 k2 k3 k5
      have g1 : decide (-2048 ≤ imm) = true := decide_eq_true (by omega)
      have g2 : decide (imm < 4096) = true := decide_eq_true (by omega)
      clear hu hj hb ho hm q7 q8
      rcases hz with hz | hz | hz | hz | hz
      all_goals subst hz
      all_goals (
        have HB := Lib.hid (Below.refl _ _ : Below w.heap.size w w)
        have TA := Lib.hid awake_any
        go_enter Try.func8, Try.ntmps8
        go_wp2_with (first
          | (go_at_call 9; (with_reducible refine (T0.out _).mono ?_); rintro e w' ⟨rfl, hb⟩; have st_ := Lib.hid (ST.out.call hb); clear ST hb; have ST := st_)
          | (go_at_call 9; (with_reducible refine (T0.out _).mono ?_); rintro e w' ⟨rfl, hb⟩; have hb_ := Lib.hid (below_below HB.out hb); clear HB hb; have HB := hb_)
          | ((with_reducible refine Step.gate_load (t := 3) rfl ?_); refine loadW ST.out.one rfl rfl rfl pl_int rfl ?_)
          | (go_at_call 11; (with_reducible refine (TA.out _).mono ?_); rintro e w' ⟨rfl, hb⟩; have st_ := Lib.hid (ST.out.call hb); clear ST hb; have ST := st_)
          | (go_at_call 11; (with_reducible refine (TA.out _).mono ?_); rintro e w' ⟨rfl, hb⟩; have hb_ := Lib.hid (below_below HB.out hb); clear HB hb; have HB := hb_)
          | ((with_reducible refine Step.gate_alloc (t := 24) rfl ?_); refine Step.freshAlloc rfl rfl (alloc_agg zero_inst) ?_; intro g2 w2 b hg hb; replace ST := Lib.hid (ST.out.more b hg hb); clear b hg hb)
          | ((with_reducible refine Step.gate_alloc (t := 24) rfl ?_); refine Step.freshAlloc rfl rfl (alloc_agg zero_inst) ?_; intro g1 w1 b hg hb; have ST := Lib.hid (S1.mk (below_below HB.out hb) b (Nat.le_trans HB.out.size hg)); clear b hg hb)
          | ((with_reducible refine Step.gate_store (t := 3) rfl ?_); refine Step.store ST.out.one rfl rfl rfl rfl rfl pl_int rfl rfl ?_; intro w3 nb m; replace ST := Lib.hid (ST.out.set1 nb m); clear nb m)
          | ((with_reducible refine Step.gate_store (t := 4) rfl ?_); refine Step.store ST.out.one rfl rfl rfl rfl rfl pl_bool rfl rfl ?_; intro w3 nb m; replace ST := Lib.hid (ST.out.set1 nb m); clear nb m)
          | ((with_reducible refine Step.gate_store (t := 24) rfl ?_); refine Step.storeAll ST.out.one rfl rfl rfl rfl rfl size_inst rfl rfl ?_; intro w3 nb m; replace ST := Lib.hid (ST.out.set1 nb m); clear nb m)
          | ((with_reducible refine Step.gate_load (t := 3) rfl ?_); refine Step.load ST.out.one rfl rfl rfl pl_int rfl ?_)
          | ((with_reducible refine Step.gate_load (t := 4) rfl ?_); refine Step.load ST.out.one rfl rfl rfl pl_bool rfl ?_)
          | ((with_reducible refine Step.gate_load (t := 24) rfl ?_); refine Step.loadAll ST.out.one rfl rfl rfl Try.underlying24 rfl size_inst ?_)
          | ((with_reducible refine Step.gate_store (t := 3) rfl ?_); refine Step.store ST.out.two rfl rfl rfl rfl rfl pl_int rfl rfl ?_; intro w3 nb m; replace ST := Lib.hid (ST.out.set2 nb m); clear nb m)
          | ((with_reducible refine Step.gate_store (t := 4) rfl ?_); refine Step.store ST.out.two rfl rfl rfl rfl rfl pl_bool rfl rfl ?_; intro w3 nb m; replace ST := Lib.hid (ST.out.set2 nb m); clear nb m)
          | ((with_reducible refine Step.gate_store (t := 24) rfl ?_); refine Step.storeAll ST.out.two rfl rfl rfl rfl rfl size_inst rfl rfl ?_; intro w3 nb m; replace ST := Lib.hid (ST.out.set2 nb m); clear nb m)
          | ((with_reducible refine Step.gate_load (t := 3) rfl ?_); refine Step.load ST.out.two rfl rfl rfl pl_int rfl ?_)
          | ((with_reducible refine Step.gate_load (t := 4) rfl ?_); refine Step.load ST.out.two rfl rfl rfl pl_bool rfl ?_)
          | ((with_reducible refine Step.gate_load (t := 24) rfl ?_); refine Step.loadAll ST.out.two rfl rfl rfl Try.underlying24 rfl size_inst ?_)
          | ((with_reducible refine Step.gate_load (t := 24) rfl ?_); refine loadAllW ST.out.one rfl rfl rfl Try.underlying24 rfl size_inst ?_)
          | ((with_reducible refine Step.gate_load (t := 24) rfl ?_); refine loadAllW ST.out.two rfl rfl rfl Try.underlying24 rfl size_inst ?_))
        go_ret
        exact ⟨rfl, ST.out.below⟩)

end Go.Proofs.Ytdhmfjcijcdnjaa.Enc
