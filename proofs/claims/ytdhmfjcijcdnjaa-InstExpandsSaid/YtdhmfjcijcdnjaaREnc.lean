/- Encode of the document: the word, where the fields are within bounds and it is read back as the instruction (written by genrenc.py). -/
import Derived.Test.YtdhmfjcijcdnjaaDecS
import Derived.Test.YtdhmfjcijcdnjaaEncode
import Derived.Test.YtdhmfjcijcdnjaaAlu
namespace Go.Proofs.Ytdhmfjcijcdnjaa.Enc
open Go Go.RowKit Go.Proofs.Ytdhmfjcijcdnjaa.Step
set_option linter.unusedVariables false
set_option linter.unusedSimpArgs false
set_option maxRecDepth 100000

section
variable {P : Program} {ops : Array Oper} {rest : List Oper} {o : Oper} {a : Act} {W : World} {Q : Exit → Act → World → Prop}
/-- A cell is read, by an operation whose guard says yes. -/
theorem loadW1 {t : TypeId} {x : Operand} {g i : Nat} {cs : Array Value} {T : TypeId} {v : Value} (hB : Blk W g cs T) (hw : Region.wanted o (yielded ops a.tmps) = true) (ho : o.op = .load t x) (hx : a.eval x = .pointer (some ⟨g, i, none⟩)) (ht : plainT P t = true) (hv : cs[i]? = some v)
    (h : wpList P ops Q rest (a.put o.dst v) W) : wpList P ops Q (o :: rest) a W := by
  refine BigFrame.wpList_want hw fun K hK => ?_
  have h1 := run_load1 (P := P) ht ((hB.cell i).trans hv)
  have h2 : (execOp a.eval o).run P W = .ok (.value v) W := by simp [execOp, ho, hx, h1, Result.andThen]
  unfold Oper.wp; rw [h2]; exact hK _ _ h
end
/-- The fields are within the document's bounds. -/
def InR (i : Ins) : Prop := (-2147483648 ≤ i.imm ∧ i.imm < 2147483648) ∧ (0 ≤ i.rd ∧ i.rd ≤ 31) ∧ (0 ≤ i.rs1 ∧ i.rs1 ≤ 31) ∧ (0 ≤ i.rs2 ∧ i.rs2 ≤ 31) ∧ (0 ≤ i.fn ∧ i.fn ≤ 28) ∧ (0 ≤ i.sz ∧ i.sz ≤ 8)

set_option maxHeartbeats 4000000 in
theorem rEncode_yes (i : Ins) (u : Int) (hr : InR i) (hu : W32 u) (hd : dec u = some i) (T0 : Hid (∀ w, Calls Try.prog 30 #[.agg i.cells] w fun e w' => e = .returned (.int .u32 u) ∧ Below w.heap.size w w')) (w : World) :
    Calls Try.prog 13 #[.agg i.cells] w fun e w' => e = .returned (.tuple #[.int .u32 u, .bool true]) ∧ Below w.heap.size w w' := by
  have T1 := Lib.hid (fun w => rDecode_any u hu w)
  have TI := Lib.hid in_any
  obtain ⟨k, fn, rd, rs1, rs2, imm, sz, sg⟩ := i
  have hf : decide (imm < -2147483648) = false ∧ decide (2147483648 ≤ imm) = false ∧ (decide (0 ≤ rd) && decide (rd ≤ 31)) = true ∧ (decide (0 ≤ rs1) && decide (rs1 ≤ 31)) = true ∧ (decide (0 ≤ rs2) && decide (rs2 ≤ 31)) = true ∧ (decide (0 ≤ fn) && decide (fn ≤ 28)) = true ∧ (decide (0 ≤ sz) && decide (sz ≤ 8)) = true := by
    simp only [InR] at hr
    refine ⟨decide_eq_false (by omega), decide_eq_false (by omega), ?_, ?_, ?_, ?_, ?_⟩ <;> (simp only [Bool.and_eq_true, decide_eq_true_eq]; omega)
  clear hr
  obtain ⟨f0, f1, f2, f3, f4, f5, f6⟩ := hf
  simp only [Ins.cells] at T0 ⊢
  rw [hd] at T1
  clear hd hu
  simp only [told, Ins.cells] at T1
  go_enter Try.func13, Try.ntmps13
  go_wp2_with (first
    | (go_at_call 29; (with_reducible refine (TI.out _ _ _ _).mono ?_); rintro e w' ⟨rfl, hb⟩; (try replace PB := Lib.hid (PB.out.below hb)); replace ST := Lib.hid (ST.out.call hb); clear hb)
    | (go_at_call 30; (with_reducible refine (T0.out _).mono ?_); rintro e w' ⟨rfl, hb⟩; (try replace PB := Lib.hid (PB.out.below hb)); replace ST := Lib.hid (ST.out.call hb); clear hb)
    | (go_at_call 10; (with_reducible refine (T1.out _).mono ?_); rintro e w' ⟨rfl, hb⟩; (try replace PB := Lib.hid (PB.out.below hb)); replace ST := Lib.hid (ST.out.call hb); clear hb)
    | ((with_reducible refine Step.gate_alloc (t := 24) rfl ?_); refine Step.freshAlloc rfl rfl (alloc_agg zero_inst) ?_; intro g2 w2 b hg hb; replace ST := Lib.hid (ST.out.more b hg hb); clear b hg hb)
    | ((with_reducible refine Step.gate_box (t := 24) rfl ?_); refine Step.fresh (cs := #[.int .i64 k, .int .i64 fn, .int .i64 rd, .int .i64 rs1, .int .i64 rs2, .int .i64 imm, .int .i64 sz, .bool sg]) (T := 24) rfl ?hr ?_; (case hr => first | (go_simp; done) | (go_simp; rfl)); intro g1 w1 b hg hb; have ST := Lib.hid (S1.made b hg hb); clear b hg hb)
    | ((with_reducible refine Step.gate_load (t := 3) rfl ?_); refine loadW1 ST.out.one rfl rfl rfl pl_int rfl ?_)
    | ((with_reducible refine Step.gate_store (t := 3) rfl ?_); refine Step.store ST.out.one rfl rfl rfl rfl rfl pl_int rfl rfl ?_; intro w3 nb m; replace ST := Lib.hid (ST.out.set1 nb m); clear nb m)
    | ((with_reducible refine Step.gate_store (t := 4) rfl ?_); refine Step.store ST.out.one rfl rfl rfl rfl rfl pl_bool rfl rfl ?_; intro w3 nb m; replace ST := Lib.hid (ST.out.set1 nb m); clear nb m)
    | ((with_reducible refine Step.gate_store (t := 24) rfl ?_); refine Step.storeAll ST.out.one rfl rfl rfl rfl rfl size_inst rfl rfl ?_; intro w3 nb m; replace ST := Lib.hid (ST.out.set1 nb m); clear nb m)
    | ((with_reducible refine Step.gate_load (t := 3) rfl ?_); refine Step.load ST.out.one rfl rfl rfl pl_int rfl ?_)
    | ((with_reducible refine Step.gate_load (t := 4) rfl ?_); refine Step.load ST.out.one rfl rfl rfl pl_bool rfl ?_)
    | ((with_reducible refine Step.gate_load (t := 24) rfl ?_); refine Step.loadAll ST.out.one rfl rfl rfl Try.underlying24 rfl size_inst ?_)
    | ((with_reducible refine Step.gate_store (t := 3) rfl ?_); refine Step.store ST.out.two rfl rfl rfl rfl rfl pl_int rfl rfl ?_; intro w3 nb m; replace ST := Lib.hid (ST.out.set2 nb m); clear nb m)
    | ((with_reducible refine Step.gate_store (t := 4) rfl ?_); refine Step.store ST.out.two rfl rfl rfl rfl rfl pl_bool rfl rfl ?_; intro w3 nb m; replace ST := Lib.hid (ST.out.set2 nb m); clear nb m)
    | ((with_reducible refine Step.gate_store (t := 24) rfl ?_); refine Step.storeAll ST.out.two rfl rfl rfl rfl rfl size_inst rfl rfl ?_; intro w3 nb m; replace ST := Lib.hid (ST.out.set2 nb m); clear nb m)
    | ((with_reducible refine Step.gate_load (t := 3) rfl ?_); refine Step.load ST.out.two rfl rfl rfl pl_int rfl ?_)
    | ((with_reducible refine Step.gate_load (t := 4) rfl ?_); refine Step.load ST.out.two rfl rfl rfl pl_bool rfl ?_)
    | ((with_reducible refine Step.gate_load (t := 24) rfl ?_); refine Step.loadAll ST.out.two rfl rfl rfl Try.underlying24 rfl size_inst ?_)
    | ((with_reducible refine Step.gate_load (t := 24) rfl ?_); refine loadAllW ST.out.one rfl rfl rfl Try.underlying24 rfl size_inst ?_)
    | ((with_reducible refine Step.gate_load (t := 24) rfl ?_); refine loadAllW ST.out.two rfl rfl rfl Try.underlying24 rfl size_inst ?_))
  go_ret2
  exact ⟨rfl, ST.out.below⟩

set_option maxHeartbeats 4000000 in
theorem rEncode_no (i : Ins) (u : Int) (hr : InR i) (hu : W32 u) (hd : dec u ≠ some i) (T0 : Hid (∀ w, Calls Try.prog 30 #[.agg i.cells] w fun e w' => e = .returned (.int .u32 u) ∧ Below w.heap.size w w')) (w : World) :
    Calls Try.prog 13 #[.agg i.cells] w fun e w' => e = .returned (.tuple #[.int .u32 0, .bool false]) ∧ Below w.heap.size w w' := by
  have T1 := Lib.hid (fun w => rDecode_any u hu w)
  have TI := Lib.hid in_any
  obtain ⟨k, fn, rd, rs1, rs2, imm, sz, sg⟩ := i
  have hf : decide (imm < -2147483648) = false ∧ decide (2147483648 ≤ imm) = false ∧ (decide (0 ≤ rd) && decide (rd ≤ 31)) = true ∧ (decide (0 ≤ rs1) && decide (rs1 ≤ 31)) = true ∧ (decide (0 ≤ rs2) && decide (rs2 ≤ 31)) = true ∧ (decide (0 ≤ fn) && decide (fn ≤ 28)) = true ∧ (decide (0 ≤ sz) && decide (sz ≤ 8)) = true := by
    simp only [InR] at hr
    refine ⟨decide_eq_false (by omega), decide_eq_false (by omega), ?_, ?_, ?_, ?_, ?_⟩ <;> (simp only [Bool.and_eq_true, decide_eq_true_eq]; omega)
  clear hr
  obtain ⟨f0, f1, f2, f3, f4, f5, f6⟩ := hf
  simp only [Ins.cells] at T0 ⊢
  generalize dec u = d at *
  clear hu
  cases d with
  | none =>
    clear hd
    simp only [told, Ins.cells, Ins.zero] at T1
    go_enter Try.func13, Try.ntmps13
    go_wp2_with (first
      | (go_at_call 29; (with_reducible refine (TI.out _ _ _ _).mono ?_); rintro e w' ⟨rfl, hb⟩; (try replace PB := Lib.hid (PB.out.below hb)); replace ST := Lib.hid (ST.out.call hb); clear hb)
      | (go_at_call 30; (with_reducible refine (T0.out _).mono ?_); rintro e w' ⟨rfl, hb⟩; (try replace PB := Lib.hid (PB.out.below hb)); replace ST := Lib.hid (ST.out.call hb); clear hb)
      | (go_at_call 10; (with_reducible refine (T1.out _).mono ?_); rintro e w' ⟨rfl, hb⟩; (try replace PB := Lib.hid (PB.out.below hb)); replace ST := Lib.hid (ST.out.call hb); clear hb)
      | ((with_reducible refine Step.gate_alloc (t := 24) rfl ?_); refine Step.freshAlloc rfl rfl (alloc_agg zero_inst) ?_; intro g2 w2 b hg hb; replace ST := Lib.hid (ST.out.more b hg hb); clear b hg hb)
      | ((with_reducible refine Step.gate_box (t := 24) rfl ?_); refine Step.fresh (cs := #[.int .i64 k, .int .i64 fn, .int .i64 rd, .int .i64 rs1, .int .i64 rs2, .int .i64 imm, .int .i64 sz, .bool sg]) (T := 24) rfl ?hr ?_; (case hr => first | (go_simp; done) | (go_simp; rfl)); intro g1 w1 b hg hb; have ST := Lib.hid (S1.made b hg hb); clear b hg hb)
      | ((with_reducible refine Step.gate_load (t := 3) rfl ?_); refine loadW1 ST.out.one rfl rfl rfl pl_int rfl ?_)
      | ((with_reducible refine Step.gate_store (t := 3) rfl ?_); refine Step.store ST.out.one rfl rfl rfl rfl rfl pl_int rfl rfl ?_; intro w3 nb m; replace ST := Lib.hid (ST.out.set1 nb m); clear nb m)
      | ((with_reducible refine Step.gate_store (t := 4) rfl ?_); refine Step.store ST.out.one rfl rfl rfl rfl rfl pl_bool rfl rfl ?_; intro w3 nb m; replace ST := Lib.hid (ST.out.set1 nb m); clear nb m)
      | ((with_reducible refine Step.gate_store (t := 24) rfl ?_); refine Step.storeAll ST.out.one rfl rfl rfl rfl rfl size_inst rfl rfl ?_; intro w3 nb m; replace ST := Lib.hid (ST.out.set1 nb m); clear nb m)
      | ((with_reducible refine Step.gate_load (t := 3) rfl ?_); refine Step.load ST.out.one rfl rfl rfl pl_int rfl ?_)
      | ((with_reducible refine Step.gate_load (t := 4) rfl ?_); refine Step.load ST.out.one rfl rfl rfl pl_bool rfl ?_)
      | ((with_reducible refine Step.gate_load (t := 24) rfl ?_); refine Step.loadAll ST.out.one rfl rfl rfl Try.underlying24 rfl size_inst ?_)
      | ((with_reducible refine Step.gate_store (t := 3) rfl ?_); refine Step.store ST.out.two rfl rfl rfl rfl rfl pl_int rfl rfl ?_; intro w3 nb m; replace ST := Lib.hid (ST.out.set2 nb m); clear nb m)
      | ((with_reducible refine Step.gate_store (t := 4) rfl ?_); refine Step.store ST.out.two rfl rfl rfl rfl rfl pl_bool rfl rfl ?_; intro w3 nb m; replace ST := Lib.hid (ST.out.set2 nb m); clear nb m)
      | ((with_reducible refine Step.gate_store (t := 24) rfl ?_); refine Step.storeAll ST.out.two rfl rfl rfl rfl rfl size_inst rfl rfl ?_; intro w3 nb m; replace ST := Lib.hid (ST.out.set2 nb m); clear nb m)
      | ((with_reducible refine Step.gate_load (t := 3) rfl ?_); refine Step.load ST.out.two rfl rfl rfl pl_int rfl ?_)
      | ((with_reducible refine Step.gate_load (t := 4) rfl ?_); refine Step.load ST.out.two rfl rfl rfl pl_bool rfl ?_)
      | ((with_reducible refine Step.gate_load (t := 24) rfl ?_); refine Step.loadAll ST.out.two rfl rfl rfl Try.underlying24 rfl size_inst ?_)
      | ((with_reducible refine Step.gate_load (t := 24) rfl ?_); refine loadAllW ST.out.one rfl rfl rfl Try.underlying24 rfl size_inst ?_)
      | ((with_reducible refine Step.gate_load (t := 24) rfl ?_); refine loadAllW ST.out.two rfl rfl rfl Try.underlying24 rfl size_inst ?_))
    go_ret2
    exact ⟨rfl, ST.out.below⟩
  | some j =>
    obtain ⟨r1, r2, r3, r4, r5, r6, r7, r8⟩ := j
    simp only [told, Ins.cells] at T1
    simp only [ne_eq, Option.some.injEq, Ins.mk.injEq] at hd
    have HD := Lib.hid hd
    clear hd
    go_enter Try.func13, Try.ntmps13
    go_wp2_with (first
      | (go_at_call 29; (with_reducible refine (TI.out _ _ _ _).mono ?_); rintro e w' ⟨rfl, hb⟩; (try replace PB := Lib.hid (PB.out.below hb)); replace ST := Lib.hid (ST.out.call hb); clear hb)
      | (go_at_call 30; (with_reducible refine (T0.out _).mono ?_); rintro e w' ⟨rfl, hb⟩; (try replace PB := Lib.hid (PB.out.below hb)); replace ST := Lib.hid (ST.out.call hb); clear hb)
      | (go_at_call 10; (with_reducible refine (T1.out _).mono ?_); rintro e w' ⟨rfl, hb⟩; (try replace PB := Lib.hid (PB.out.below hb)); replace ST := Lib.hid (ST.out.call hb); clear hb)
      | ((with_reducible refine Step.gate_alloc (t := 24) rfl ?_); refine Step.freshAlloc rfl rfl (alloc_agg zero_inst) ?_; intro g2 w2 b hg hb; replace ST := Lib.hid (ST.out.more b hg hb); clear b hg hb)
      | ((with_reducible refine Step.gate_box (t := 24) rfl ?_); refine Step.fresh (cs := #[.int .i64 k, .int .i64 fn, .int .i64 rd, .int .i64 rs1, .int .i64 rs2, .int .i64 imm, .int .i64 sz, .bool sg]) (T := 24) rfl ?hr ?_; (case hr => first | (go_simp; done) | (go_simp; rfl)); intro g1 w1 b hg hb; have ST := Lib.hid (S1.made b hg hb); clear b hg hb)
      | ((with_reducible refine Step.gate_load (t := 3) rfl ?_); refine loadW1 ST.out.one rfl rfl rfl pl_int rfl ?_)
      | ((with_reducible refine Step.gate_store (t := 3) rfl ?_); refine Step.store ST.out.one rfl rfl rfl rfl rfl pl_int rfl rfl ?_; intro w3 nb m; replace ST := Lib.hid (ST.out.set1 nb m); clear nb m)
      | ((with_reducible refine Step.gate_store (t := 4) rfl ?_); refine Step.store ST.out.one rfl rfl rfl rfl rfl pl_bool rfl rfl ?_; intro w3 nb m; replace ST := Lib.hid (ST.out.set1 nb m); clear nb m)
      | ((with_reducible refine Step.gate_store (t := 24) rfl ?_); refine Step.storeAll ST.out.one rfl rfl rfl rfl rfl size_inst rfl rfl ?_; intro w3 nb m; replace ST := Lib.hid (ST.out.set1 nb m); clear nb m)
      | ((with_reducible refine Step.gate_load (t := 3) rfl ?_); refine Step.load ST.out.one rfl rfl rfl pl_int rfl ?_)
      | ((with_reducible refine Step.gate_load (t := 4) rfl ?_); refine Step.load ST.out.one rfl rfl rfl pl_bool rfl ?_)
      | ((with_reducible refine Step.gate_load (t := 24) rfl ?_); refine Step.loadAll ST.out.one rfl rfl rfl Try.underlying24 rfl size_inst ?_)
      | ((with_reducible refine Step.gate_store (t := 3) rfl ?_); refine Step.store ST.out.two rfl rfl rfl rfl rfl pl_int rfl rfl ?_; intro w3 nb m; replace ST := Lib.hid (ST.out.set2 nb m); clear nb m)
      | ((with_reducible refine Step.gate_store (t := 4) rfl ?_); refine Step.store ST.out.two rfl rfl rfl rfl rfl pl_bool rfl rfl ?_; intro w3 nb m; replace ST := Lib.hid (ST.out.set2 nb m); clear nb m)
      | ((with_reducible refine Step.gate_store (t := 24) rfl ?_); refine Step.storeAll ST.out.two rfl rfl rfl rfl rfl size_inst rfl rfl ?_; intro w3 nb m; replace ST := Lib.hid (ST.out.set2 nb m); clear nb m)
      | ((with_reducible refine Step.gate_load (t := 3) rfl ?_); refine Step.load ST.out.two rfl rfl rfl pl_int rfl ?_)
      | ((with_reducible refine Step.gate_load (t := 4) rfl ?_); refine Step.load ST.out.two rfl rfl rfl pl_bool rfl ?_)
      | ((with_reducible refine Step.gate_load (t := 24) rfl ?_); refine Step.loadAll ST.out.two rfl rfl rfl Try.underlying24 rfl size_inst ?_)
      | ((with_reducible refine Step.gate_load (t := 24) rfl ?_); refine loadAllW ST.out.one rfl rfl rfl Try.underlying24 rfl size_inst ?_)
      | ((with_reducible refine Step.gate_load (t := 24) rfl ?_); refine loadAllW ST.out.two rfl rfl rfl Try.underlying24 rfl size_inst ?_))
    all_goals first
      | (go_ret2; exact ⟨rfl, ST.out.below⟩)
      | (exfalso; refine HD.out ?_; simp_all; done)

set_option maxHeartbeats 4000000 in
theorem rEncode_out (i : Ins) (hr : ¬ InR i) (w : World) :
    Calls Try.prog 13 #[.agg i.cells] w fun e w' => e = .returned (.tuple #[.int .u32 0, .bool false]) ∧ Below w.heap.size w w' := by
  have TI := Lib.hid in_any
  have T0 : Hid True := trivial
  have T1 : Hid True := trivial
  obtain ⟨k, fn, rd, rs1, rs2, imm, sz, sg⟩ := i
  simp only [Ins.cells]
  have hf : (decide (imm < -2147483648) = true) ∨ (decide (imm < -2147483648) = false ∧ decide (2147483648 ≤ imm) = true) ∨ (decide (imm < -2147483648) = false ∧ decide (2147483648 ≤ imm) = false ∧ (decide (0 ≤ rd) && decide (rd ≤ 31)) = false) ∨ (decide (imm < -2147483648) = false ∧ decide (2147483648 ≤ imm) = false ∧ (decide (0 ≤ rd) && decide (rd ≤ 31)) = true ∧ (decide (0 ≤ rs1) && decide (rs1 ≤ 31)) = false) ∨ (decide (imm < -2147483648) = false ∧ decide (2147483648 ≤ imm) = false ∧ (decide (0 ≤ rd) && decide (rd ≤ 31)) = true ∧ (decide (0 ≤ rs1) && decide (rs1 ≤ 31)) = true ∧ (decide (0 ≤ rs2) && decide (rs2 ≤ 31)) = false) ∨ (decide (imm < -2147483648) = false ∧ decide (2147483648 ≤ imm) = false ∧ (decide (0 ≤ rd) && decide (rd ≤ 31)) = true ∧ (decide (0 ≤ rs1) && decide (rs1 ≤ 31)) = true ∧ (decide (0 ≤ rs2) && decide (rs2 ≤ 31)) = true ∧ (decide (0 ≤ fn) && decide (fn ≤ 28)) = false) ∨ (decide (imm < -2147483648) = false ∧ decide (2147483648 ≤ imm) = false ∧ (decide (0 ≤ rd) && decide (rd ≤ 31)) = true ∧ (decide (0 ≤ rs1) && decide (rs1 ≤ 31)) = true ∧ (decide (0 ≤ rs2) && decide (rs2 ≤ 31)) = true ∧ (decide (0 ≤ fn) && decide (fn ≤ 28)) = true ∧ (decide (0 ≤ sz) && decide (sz ≤ 8)) = false) := by
    simp only [InR] at hr
    simp only [Bool.and_eq_true, Bool.and_eq_false_iff, decide_eq_true_eq, decide_eq_false_iff_not]
    omega
  clear hr
  rcases hf with f0 | ⟨f0, f1⟩ | ⟨f0, f1, f2⟩ | ⟨f0, f1, f2, f3⟩ | ⟨f0, f1, f2, f3, f4⟩ | ⟨f0, f1, f2, f3, f4, f5⟩ | ⟨f0, f1, f2, f3, f4, f5, f6⟩
  all_goals (
    go_enter Try.func13, Try.ntmps13
    go_wp2_with (first
      | (go_at_call 29; (with_reducible refine (TI.out _ _ _ _).mono ?_); rintro e w' ⟨rfl, hb⟩; (try replace PB := Lib.hid (PB.out.below hb)); replace ST := Lib.hid (ST.out.call hb); clear hb)
      | (go_at_call 30; (with_reducible refine (T0.out _).mono ?_); rintro e w' ⟨rfl, hb⟩; (try replace PB := Lib.hid (PB.out.below hb)); replace ST := Lib.hid (ST.out.call hb); clear hb)
      | (go_at_call 10; (with_reducible refine (T1.out _).mono ?_); rintro e w' ⟨rfl, hb⟩; (try replace PB := Lib.hid (PB.out.below hb)); replace ST := Lib.hid (ST.out.call hb); clear hb)
      | ((with_reducible refine Step.gate_alloc (t := 24) rfl ?_); refine Step.freshAlloc rfl rfl (alloc_agg zero_inst) ?_; intro g2 w2 b hg hb; replace ST := Lib.hid (ST.out.more b hg hb); clear b hg hb)
      | ((with_reducible refine Step.gate_box (t := 24) rfl ?_); refine Step.fresh (cs := #[.int .i64 k, .int .i64 fn, .int .i64 rd, .int .i64 rs1, .int .i64 rs2, .int .i64 imm, .int .i64 sz, .bool sg]) (T := 24) rfl ?hr ?_; (case hr => first | (go_simp; done) | (go_simp; rfl)); intro g1 w1 b hg hb; have ST := Lib.hid (S1.made b hg hb); clear b hg hb)
      | ((with_reducible refine Step.gate_load (t := 3) rfl ?_); refine loadW1 ST.out.one rfl rfl rfl pl_int rfl ?_)
      | ((with_reducible refine Step.gate_store (t := 3) rfl ?_); refine Step.store ST.out.one rfl rfl rfl rfl rfl pl_int rfl rfl ?_; intro w3 nb m; replace ST := Lib.hid (ST.out.set1 nb m); clear nb m)
      | ((with_reducible refine Step.gate_store (t := 4) rfl ?_); refine Step.store ST.out.one rfl rfl rfl rfl rfl pl_bool rfl rfl ?_; intro w3 nb m; replace ST := Lib.hid (ST.out.set1 nb m); clear nb m)
      | ((with_reducible refine Step.gate_store (t := 24) rfl ?_); refine Step.storeAll ST.out.one rfl rfl rfl rfl rfl size_inst rfl rfl ?_; intro w3 nb m; replace ST := Lib.hid (ST.out.set1 nb m); clear nb m)
      | ((with_reducible refine Step.gate_load (t := 3) rfl ?_); refine Step.load ST.out.one rfl rfl rfl pl_int rfl ?_)
      | ((with_reducible refine Step.gate_load (t := 4) rfl ?_); refine Step.load ST.out.one rfl rfl rfl pl_bool rfl ?_)
      | ((with_reducible refine Step.gate_load (t := 24) rfl ?_); refine Step.loadAll ST.out.one rfl rfl rfl Try.underlying24 rfl size_inst ?_)
      | ((with_reducible refine Step.gate_store (t := 3) rfl ?_); refine Step.store ST.out.two rfl rfl rfl rfl rfl pl_int rfl rfl ?_; intro w3 nb m; replace ST := Lib.hid (ST.out.set2 nb m); clear nb m)
      | ((with_reducible refine Step.gate_store (t := 4) rfl ?_); refine Step.store ST.out.two rfl rfl rfl rfl rfl pl_bool rfl rfl ?_; intro w3 nb m; replace ST := Lib.hid (ST.out.set2 nb m); clear nb m)
      | ((with_reducible refine Step.gate_store (t := 24) rfl ?_); refine Step.storeAll ST.out.two rfl rfl rfl rfl rfl size_inst rfl rfl ?_; intro w3 nb m; replace ST := Lib.hid (ST.out.set2 nb m); clear nb m)
      | ((with_reducible refine Step.gate_load (t := 3) rfl ?_); refine Step.load ST.out.two rfl rfl rfl pl_int rfl ?_)
      | ((with_reducible refine Step.gate_load (t := 4) rfl ?_); refine Step.load ST.out.two rfl rfl rfl pl_bool rfl ?_)
      | ((with_reducible refine Step.gate_load (t := 24) rfl ?_); refine Step.loadAll ST.out.two rfl rfl rfl Try.underlying24 rfl size_inst ?_)
      | ((with_reducible refine Step.gate_load (t := 24) rfl ?_); refine loadAllW ST.out.one rfl rfl rfl Try.underlying24 rfl size_inst ?_)
      | ((with_reducible refine Step.gate_load (t := 24) rfl ?_); refine loadAllW ST.out.two rfl rfl rfl Try.underlying24 rfl size_inst ?_))
    go_ret2
    exact ⟨rfl, ST.out.below⟩)

end Go.Proofs.Ytdhmfjcijcdnjaa.Enc
