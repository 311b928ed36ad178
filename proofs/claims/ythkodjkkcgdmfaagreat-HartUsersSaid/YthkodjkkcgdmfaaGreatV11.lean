/- Parts of the walks and laws for the claim: Dec, DecB, MapInt, DecD, Run, Once; no conditions beyond the theorems' own. -/
import Derived.ChangeAlike
import Derived.Deep.Draws
import Derived.Defers
import Derived.KernelRfl
import Derived.Laws.LoneSync
import Derived.Laws.Pointers
import Derived.Maps.Own
import Derived.RegionCalls
import Derived.RegionTactic
import Derived.Tactics
import Derived.Tactics2
import Derived.Test.YthkodjkkcgdmfaaGreatProg
import Derived.WalkKit
import Derived.Test.YthkodjkkcgdmfaaGreatV9
import Derived.Test.YthkodjkkcgdmfaaGreatV10
section
namespace Go.Proofs.YthkodjkkcgdmfaaGreat.Enc
open Go Go.RowKit
set_option linter.unusedVariables false
/-- An instruction's fields. -/
structure Ins where
  k : Int
  fn : Int
  rd : Int
  rs1 : Int
  rs2 : Int
  imm : Int
  sz : Int
  sg : Bool
def Ins.cells (i : Ins) : Array Value := #[.int .i64 i.k, .int .i64 i.fn, .int .i64 i.rd, .int .i64 i.rs1, .int .i64 i.rs2, .int .i64 i.imm, .int .i64 i.sz, .bool i.sg]
def Ins.zero : Ins := ⟨0, 0, 0, 0, 0, 0, 0, false⟩
/-- What Decode tells. -/
def told : Option Ins → Value
  | none => .tuple #[.agg Ins.zero.cells, .bool false]
  | some i => .tuple #[.agg i.cells, .bool true]
def brL : List Int := [1, 2, 0, 0, 3, 4, 5, 6]
def ldL : List Int := [1, 2, 4, 8, 1, 2, 4, 8]
def stL : List Int := [1, 2, 4, 8, 16, 32, 64, 128]
def csL : List Int := [0, 1, 2, 3, 0, 1, 2, 3]
def sysD (a : Int) : Option Ins :=
  if a = 115 then some ⟨11, 0, 0, 0, 0, 0, 0, false⟩
  else if a = 1048691 then some ⟨12, 0, 0, 0, 0, 0, 0, false⟩
  else if a = 270532723 then some ⟨18, 0, 0, 0, 0, 0, 0, false⟩
  else if a = 273678451 then some ⟨19, 0, 0, 0, 0, 0, 0, false⟩
  else if fd a 14 12 = 0 then (if fd a 31 25 = 9 ∧ fd a 11 7 = 0 then some ⟨20, 0, 0, fd a 19 15, fd a 24 20, 0, 0, false⟩ else none)
  else if pk csL (fd a 14 12) = 0 then none
  else some ⟨if fd a 14 12 < 4 then 13 else 14, pk csL (fd a 14 12), fd a 11 7, fd a 19 15, 0, fd a 31 20, 0, false⟩
def atD (a : Int) : Option Ins :=
  if fd a 14 12 = 2 ∨ fd a 14 12 = 3 then
    (if (atF (fd a 31 27) (fd a 24 20)).2.2 then some ⟨(atF (fd a 31 27) (fd a 24 20)).1, (atF (fd a 31 27) (fd a 24 20)).2.1, fd a 11 7, fd a 19 15, fd a 24 20, 0, if fd a 14 12 = 2 then 4 else 8, false⟩ else none)
  else none
/-- What a word says as an instruction, by its lowest bits. -/
def decOp (op a : Int) : Option Ins :=
  if op = 55 then some ⟨1, 0, fd a 11 7, 0, 0, immU a, 0, false⟩
  else if op = 23 then some ⟨2, 0, fd a 11 7, 0, 0, immU a, 0, false⟩
  else if op = 111 then some ⟨3, 0, fd a 11 7, 0, 0, immJ a, 0, false⟩
  else if op = 103 then (if fd a 14 12 = 0 then some ⟨4, 0, fd a 11 7, fd a 19 15, 0, immI a, 0, false⟩ else none)
  else if op = 99 then (if pk brL (fd a 14 12) = 0 then none else some ⟨5, pk brL (fd a 14 12), 0, fd a 19 15, fd a 24 20, immB a, 0, false⟩)
  else if op = 3 then (if fd a 14 12 < 7 then some ⟨6, 0, fd a 11 7, fd a 19 15, 0, immI a, pk ldL (fd a 14 12), decide (fd a 14 12 < 4)⟩ else none)
  else if op = 35 then (if fd a 14 12 < 4 then some ⟨7, 0, 0, fd a 19 15, fd a 24 20, immS a, pk stL (fd a 14 12), false⟩ else none)
  else if op = 19 then (if (im13 (fd a 31 26) (fd a 14 12) (fd a 25 20) (immI a)).2.2 then some ⟨9, (im13 (fd a 31 26) (fd a 14 12) (fd a 25 20) (immI a)).1, fd a 11 7, fd a 19 15, 0, (im13 (fd a 31 26) (fd a 14 12) (fd a 25 20) (immI a)).2.1, 0, false⟩ else none)
  else if op = 27 then (if (im1b (fd a 31 25) (fd a 14 12) (fd a 24 20) (immI a)).2.2 then some ⟨9, (im1b (fd a 31 25) (fd a 14 12) (fd a 24 20) (immI a)).1, fd a 11 7, fd a 19 15, 0, (im1b (fd a 31 25) (fd a 14 12) (fd a 24 20) (immI a)).2.1, 0, false⟩ else none)
  else if op = 51 then (if regF true (fd a 31 25) (fd a 14 12) = 0 then none else some ⟨8, regF true (fd a 31 25) (fd a 14 12), fd a 11 7, fd a 19 15, fd a 24 20, 0, 0, false⟩)
  else if op = 59 then (if regF false (fd a 31 25) (fd a 14 12) = 0 then none else some ⟨8, regF false (fd a 31 25) (fd a 14 12), fd a 11 7, fd a 19 15, fd a 24 20, 0, 0, false⟩)
  else if op = 15 then (if fd a 14 12 < 2 then some ⟨10, 0, 0, 0, 0, 0, 0, false⟩ else none)
  else if op = 115 then sysD a
  else if op = 47 then atD a
  else none
def dec (a : Int) : Option Ins := decOp (fd a 6 0) a
/-- A result of the inner readers: what stands there counts where they say so. -/
def Says (d : Option Ins) (e : Ending) : Prop := ∃ j ok, e = .returned (.tuple #[.agg (Ins.cells j), .bool ok]) ∧ d = if ok then some j else none
end Go.Proofs.YthkodjkkcgdmfaaGreat.Enc
end
section
namespace Go.Proofs.YthkodjkkcgdmfaaGreat.Enc
open Go Go.RowKit Go.Proofs.YthkodjkkcgdmfaaGreat.Step
set_option linter.unusedVariables false
set_option linter.unusedSimpArgs false
set_option maxRecDepth 100000
theorem plain9_13 (a rd rs1 m : Int) (ha : W32 a) (hop : fd a 6 0 = 19) (w : World) : Calls Tryz.prog 144 #[.int .u32 a, .agg #[.int .i64 9, .int .i64 0, .int .i64 rd, .int .i64 rs1, .int .i64 0, .int .i64 m, .int .i64 0, .bool false]] w fun e w' => e = .returned (.tuple #[.agg #[.int .i64 9, .int .i64 ((im13 (fd a 31 26) (fd a 14 12) (fd a 25 20) m).1), .int .i64 rd, .int .i64 rs1, .int .i64 0, .int .i64 ((im13 (fd a 31 26) (fd a 14 12) (fd a 25 20) m).2.1), .int .i64 0, .bool false], .bool (im13 (fd a 31 26) (fd a 14 12) (fd a 25 20) m).2.2]) ∧ Below w.heap.size w w' := by
  have T2 := Lib.hid (immediate13 a rd rs1 m ha hop)
  clear hop
  generalize (im13 (fd a 31 26) (fd a 14 12) (fd a 25 20) m).1 = u1 at *
  generalize (im13 (fd a 31 26) (fd a 14 12) (fd a 25 20) m).2.1 = u2 at *
  generalize (im13 (fd a 31 26) (fd a 14 12) (fd a 25 20) m).2.2 = u3 at *
  go_enter Tryz.func144, Tryz.ntmps144
  go_wp2_with (first
    | (go_at_call 168; (with_reducible refine (T2.out _).mono ?_); rintro e w' ⟨rfl, hb⟩; (try (have pb_ := Lib.hid (PB.out.below hb); clear PB; have PB := pb_)); have st_ := Lib.hid (ST.out.call hb); clear ST hb; have ST := st_)
    | ((with_reducible refine Step.gate_box (t := 44) rfl ?_); refine Step.fresh (cs := #[.int .i64 9, .int .i64 0, .int .i64 rd, .int .i64 rs1, .int .i64 0, .int .i64 m, .int .i64 0, .bool false]) (T := 44) rfl ?hr ?_; (case hr => first | (go_simp; done) | (go_simp; rfl)); intro g1 w1 b hg hb; have ST := Lib.hid (S1.made b hg hb); clear b hg hb)
    | ((with_reducible refine Step.gate_alloc (t := 44) rfl ?_); refine Step.freshAlloc rfl rfl (alloc_agg zero_inst) ?_; intro g2 w2 b hg hb; have st_ := Lib.hid (ST.out.more b hg hb); clear ST b hg hb; have ST := st_)
    | ((with_reducible refine Step.gate_store (t := 3) rfl ?_); refine Step.store ST.out.one rfl rfl rfl rfl rfl pl_int rfl rfl ?_; intro w3 nb m; have st_ := Lib.hid (ST.out.set1 nb m); clear ST nb m; have ST := st_)
    | ((with_reducible refine Step.gate_store (t := 4) rfl ?_); refine Step.store ST.out.one rfl rfl rfl rfl rfl pl_bool rfl rfl ?_; intro w3 nb m; have st_ := Lib.hid (ST.out.set1 nb m); clear ST nb m; have ST := st_)
    | ((with_reducible refine Step.gate_store (t := 44) rfl ?_); refine Step.storeAll ST.out.one rfl rfl rfl rfl rfl size_inst rfl rfl ?_; intro w3 nb m; have st_ := Lib.hid (ST.out.set1 nb m); clear ST nb m; have ST := st_)
    | ((with_reducible refine Step.gate_load (t := 3) rfl ?_); refine Step.load ST.out.one rfl rfl rfl pl_int rfl ?_)
    | ((with_reducible refine Step.gate_load (t := 4) rfl ?_); refine Step.load ST.out.one rfl rfl rfl pl_bool rfl ?_)
    | ((with_reducible refine Step.gate_load (t := 44) rfl ?_); refine Step.loadAll ST.out.one rfl rfl rfl Tryz.underlying44 rfl size_inst ?_)
    | ((with_reducible refine Step.gate_store (t := 3) rfl ?_); refine Step.store ST.out.two rfl rfl rfl rfl rfl pl_int rfl rfl ?_; intro w3 nb m; have st_ := Lib.hid (ST.out.set2 nb m); clear ST nb m; have ST := st_)
    | ((with_reducible refine Step.gate_store (t := 4) rfl ?_); refine Step.store ST.out.two rfl rfl rfl rfl rfl pl_bool rfl rfl ?_; intro w3 nb m; have st_ := Lib.hid (ST.out.set2 nb m); clear ST nb m; have ST := st_)
    | ((with_reducible refine Step.gate_store (t := 44) rfl ?_); refine Step.storeAll ST.out.two rfl rfl rfl rfl rfl size_inst rfl rfl ?_; intro w3 nb m; have st_ := Lib.hid (ST.out.set2 nb m); clear ST nb m; have ST := st_)
    | ((with_reducible refine Step.gate_load (t := 3) rfl ?_); refine Step.load ST.out.two rfl rfl rfl pl_int rfl ?_)
    | ((with_reducible refine Step.gate_load (t := 4) rfl ?_); refine Step.load ST.out.two rfl rfl rfl pl_bool rfl ?_)
    | ((with_reducible refine Step.gate_load (t := 44) rfl ?_); refine Step.loadAll ST.out.two rfl rfl rfl Tryz.underlying44 rfl size_inst ?_))
  refine bodyPost_ret (results_row_tmp rfl _ _ g2 _ _ _ rfl ST.out.two Tryz.underlying44 rfl size_inst) rfl ⟨rfl, ST.out.below⟩
end Go.Proofs.YthkodjkkcgdmfaaGreat.Enc
end
section
namespace Go.Proofs.YthkodjkkcgdmfaaGreat.MapInt
open Go.RowKit
set_option linter.unusedSimpArgs false
theorem run_checkKey_i {P : Program} {kt : TypeId} {k : IntKind} (hk : P.underlying kt = some (.int k)) (em : Bool) (n : Int) (W : World) : (Instr.checkKey em 10000 kt (.int k n)).run P W = .ok () W := by
  unfold Instr.checkKey
  simp [run_underlying hk]
theorem run_findKey_i {P : Program} {kt : TypeId} {k : IntKind} (hk : P.underlying kt = some (.int k)) (n : Int) (es : List MapEntry) (r : Option (Nat × Value)) (hf : Instr.findNow (.int k) (.int k n) es 0 = some r) (W : World) :
    (Instr.findKey kt (.int k n) es).run P W = .ok r W := by
  unfold Instr.findKey
  simp [run_underlying hk, hf]
theorem set_last (W : World) (o o' : Obj) : { (W.alloc o) with heap := (W.alloc o).heap.setIfInBounds W.heap.size o' } = W.alloc o' := by
  have e : ∀ x, (W.alloc x).heap = W.heap.push x := fun _ => rfl
  have e2 : (W.heap.push o).setIfInBounds W.heap.size o' = W.heap.push o' := by
    apply Array.ext
    · simp
    · intro i h1 h2
      simp only [Array.size_setIfInBounds, Array.size_push] at h1 h2
      rw [Array.getElem_setIfInBounds (by simpa using h1)]
      by_cases h : W.heap.size = i
      · subst h; simp
      · rw [if_neg h, Array.getElem_push, Array.getElem_push]
        have : i < W.heap.size := by omega
        simp [this]
  rw [e, e2]; rfl
theorem run_put {P : Program} {t kt et : TypeId} {k : IntKind} (ht : P.underlying t = some (.map kt et)) (hk : P.underlying kt = some (.int k)) (es : Array MapEntry) (c : Nat) (n : Int) (v : Value)
    (hf : Instr.findNow (.int k) (.int k n) es.toList 0 = some none) (W : World) :
    (Instr.mapUpdate t (.map (some W.heap.size)) (.int k n) v).run P (W.alloc (.map es c)) = .ok () (W.alloc (.map (es.push { key := .int k n, val := v, born := c }) (c + 1))) := by
  have hb : (W.alloc (.map es c)).heap[W.heap.size]? = some (.map es c) := (MapKept.heap_alloc W _).1
  simp [Instr.mapUpdate, run_underlying ht, MapKept.run_getObj_map hb, run_checkKey_i hk, run_findKey_i hk n _ _ hf, MapKept.run_setObj_map _ hb, Result.andThen]
  exact set_last W _ _
theorem run_look {P : Program} {t kt et : TypeId} {k : IntKind} (ht : P.underlying t = some (.map kt et)) (hk : P.underlying kt = some (.int k)) {es : Array MapEntry} {c : Nat} {n : Int} {i : Nat} {v : Value} {r : Nat}
    (hf : Instr.findNow (.int k) (.int k n) es.toList 0 = some (some (i, v))) (W : World) (hb : W.heap[r]? = some (.map es c)) :
    (Instr.lookup t (.map (some r)) (.int k n) true).run P W = .ok (.tuple #[v, .bool true]) W := by
  simp [Instr.lookup, run_underlying ht, MapKept.run_getObj_map hb, run_checkKey_i hk, run_findKey_i hk n _ _ hf, Result.andThen]
theorem run_look_one {P : Program} {t kt et : TypeId} {k : IntKind} (ht : P.underlying t = some (.map kt et)) (hk : P.underlying kt = some (.int k)) {es : Array MapEntry} {c : Nat} {n : Int} {i : Nat} {v : Value} {r : Nat}
    (hf : Instr.findNow (.int k) (.int k n) es.toList 0 = some (some (i, v))) (W : World) (hb : W.heap[r]? = some (.map es c)) :
    (Instr.lookup t (.map (some r)) (.int k n) false).run P W = .ok v W := by
  simp [Instr.lookup, run_underlying ht, MapKept.run_getObj_map hb, run_checkKey_i hk, run_findKey_i hk n _ _ hf, Result.andThen]
/-- The look-up at the operation, whose answer is known. -/
theorem wpList_look {P : Program} {w : World} {ops : Array Oper} {rest : List Oper} {o : Oper} {a : Act} {Q : Exit → Act → World → Prop}
    (hg : o.guard = none) (m x : Operand) (t : TypeId) (ok : Bool) (hop : o.op = Op.lookup t m x ok) (mv xv v : Value) (hm : a.eval m = mv) (hx : a.eval x = xv)
    (hrun : (Instr.lookup t mv xv ok).run P w = .ok v w) (hK : wpList P ops Q rest (a.put o.dst v) w) : wpList P ops Q (o :: rest) a w := by
  refine wpList_plain hg fun K' hK' => ?_
  unfold Oper.wp
  simp [execOp, hop, hm, hx, hrun, Result.andThen]
  exact hK' _ _ hK
end Go.Proofs.YthkodjkkcgdmfaaGreat.MapInt
end
section
namespace Go.Proofs.YthkodjkkcgdmfaaGreat.Enc
open Go Go.RowKit Go.Proofs.YthkodjkkcgdmfaaGreat.Step
set_option linter.unusedVariables false
set_option linter.unusedSimpArgs false
set_option maxRecDepth 100000
def rowL : List (Int × Value) := [(55, .agg #[.int .i64 1, .func (.func 162) #[] #[], .bool true, .bool false, .bool false]), (23, .agg #[.int .i64 2, .func (.func 162) #[] #[], .bool true, .bool false, .bool false]), (111, .agg #[.int .i64 3, .func (.func 163) #[] #[], .bool true, .bool false, .bool false]), (103, .agg #[.int .i64 4, .func (.func 164) #[] #[], .bool true, .bool true, .bool false]), (99, .agg #[.int .i64 5, .func (.func 165) #[] #[], .bool false, .bool true, .bool true]), (3, .agg #[.int .i64 6, .func (.func 164) #[] #[], .bool true, .bool true, .bool false]), (35, .agg #[.int .i64 7, .func (.func 166) #[] #[], .bool false, .bool true, .bool true]), (19, .agg #[.int .i64 9, .func (.func 164) #[] #[], .bool true, .bool true, .bool false]), (27, .agg #[.int .i64 9, .func (.func 164) #[] #[], .bool true, .bool true, .bool false]), (51, .agg #[.int .i64 8, .func (.func 167) #[] #[], .bool true, .bool true, .bool true]), (59, .agg #[.int .i64 8, .func (.func 167) #[] #[], .bool true, .bool true, .bool true])]
def rowE (n : Nat) : Array MapEntry := ((rowL.take n).zipIdx.map fun (p, i) => ({ key := .int .i64 p.1, val := p.2, born := i } : MapEntry)).toArray
theorem rows_put (n : Nat) (k : Int) (v : Value) (hf : Instr.findNow (.int .i64) (.int .i64 k) (rowE n).toList 0 = some none) (he : (rowE n).push { key := .int .i64 k, val := v, born := n } = rowE (n + 1)) (W : World) :
    (Instr.mapUpdate 188 (.map (some W.heap.size)) (.int .i64 k) v).run Tryz.prog (W.alloc (.map (rowE n) n)) = .ok () (W.alloc (.map (rowE (n + 1)) (n + 1))) := by
  rw [← he]; exact MapInt.run_put Tryz.underlying188 Tryz.underlying3 _ _ _ _ hf W
theorem rows_make (W : World) : (Instr.makeMap 188 none).run Tryz.prog W = .ok (.map (some W.heap.size)) (W.alloc (.map (rowE 0) 0)) := by rfl
set_option maxHeartbeats 4000000 in
theorem rows_calls (w : World) : Calls Tryz.prog 140 #[] w fun e w' => ∃ m, e = .returned (.map (some m)) ∧ Below w.heap.size w w' ∧ w'.heap[m]? = some (.map (rowE 11) 11) := by
  have h0 := rows_make
  have g0 := rows_put 0 55 (.agg #[.int .i64 1, .func (.func 162) #[] #[], .bool true, .bool false, .bool false]) rfl rfl
  have g1 := rows_put 1 23 (.agg #[.int .i64 2, .func (.func 162) #[] #[], .bool true, .bool false, .bool false]) rfl rfl
  have g2 := rows_put 2 111 (.agg #[.int .i64 3, .func (.func 163) #[] #[], .bool true, .bool false, .bool false]) rfl rfl
  have g3 := rows_put 3 103 (.agg #[.int .i64 4, .func (.func 164) #[] #[], .bool true, .bool true, .bool false]) rfl rfl
  have g4 := rows_put 4 99 (.agg #[.int .i64 5, .func (.func 165) #[] #[], .bool false, .bool true, .bool true]) rfl rfl
  have g5 := rows_put 5 3 (.agg #[.int .i64 6, .func (.func 164) #[] #[], .bool true, .bool true, .bool false]) rfl rfl
  have g6 := rows_put 6 35 (.agg #[.int .i64 7, .func (.func 166) #[] #[], .bool false, .bool true, .bool true]) rfl rfl
  have g7 := rows_put 7 19 (.agg #[.int .i64 9, .func (.func 164) #[] #[], .bool true, .bool true, .bool false]) rfl rfl
  have g8 := rows_put 8 27 (.agg #[.int .i64 9, .func (.func 164) #[] #[], .bool true, .bool true, .bool false]) rfl rfl
  have g9 := rows_put 9 51 (.agg #[.int .i64 8, .func (.func 167) #[] #[], .bool true, .bool true, .bool true]) rfl rfl
  have g10 := rows_put 10 59 (.agg #[.int .i64 8, .func (.func 167) #[] #[], .bool true, .bool true, .bool true]) rfl rfl
  go_enter Tryz.func140, Tryz.ntmps140
  go_wp2
  go_ret
  exact ⟨_, rfl, alloc_below _ _, (MapKept.heap_alloc _ _).1⟩
theorem pl_func : Step.plainT Tryz.prog 184 = true := by kernel_rfl
theorem zero_row : (Tryz.prog.info? 186).bind (·.zero) = some (.agg #[.int .i64 0, .nilFunc, .bool false, .bool false, .bool false]) := by kernel_rfl
theorem size_row : (Tryz.prog.info? 186).map (·.size) = some 5 := by kernel_rfl
/-- The row's variable, of the call's own. -/
structure R1 (W w : World) (q : Nat) (d : Array Value) : Prop where
  blk : Blk w q d 186
  lo : W.heap.size ≤ q
theorem R1.call {W w w' : World} {q : Nat} {d : Array Value} (h : R1 W w q d) (hb : Below w.heap.size w w') : R1 W w' q d := ⟨h.blk.below hb, h.lo⟩
theorem R1.keep {W w w' : World} {q g : Nat} {c d : Array Value} (h : R1 W w q d) (h2 : Blk w g c 44) (m : Mod (One g) w w') : R1 W w' q d :=
  ⟨h.blk.one m fun e => by subst e; exact absurd (h.blk.inj h2).2 (by decide), h.lo⟩
theorem S1.other {W w w' : World} {q g : Nat} {c d : Array Value} (h : S1 W w 44 g c) (h2 : R1 W w q d) (m : Mod (One q) w w') : S1 W w' 44 g c :=
  ⟨below_one h.below m h2.lo, h.one.one m fun e => by subst e; exact absurd (h.one.inj h2.blk).2 (by decide), h.lo⟩
theorem map_below {w w' : World} {m : Nat} {x : Obj} (h : w.heap[m]? = some x) (hb : Below w.heap.size w w') : w'.heap[m]? = some x := (hb.block m (Array.getElem?_eq_some_iff.1 h).1).trans h
theorem look_19 {W : World} {m : Nat} (h : W.heap[m]? = some (.map (rowE 11) 11)) : (Instr.lookup 188 (.map (some m)) (.int .i64 19) true).run Tryz.prog W = .ok (.tuple #[.agg #[.int .i64 9, .func (.func 164) #[] #[], .bool true, .bool true, .bool false], .bool true]) W :=
  MapInt.run_look Tryz.underlying188 Tryz.underlying3 (i := 7) (v := .agg #[.int .i64 9, .func (.func 164) #[] #[], .bool true, .bool true, .bool false]) rfl W h
set_option maxHeartbeats 2000000 in
theorem decode_19 (a m rd rs1 rs2 r1 r2 r3 r4 r5 r6 r7 : Int) (r8 r9 : Bool) (T0 : Hid (∀ w, Calls Tryz.prog 136 #[.int .u32 a] w fun e w' => e = .returned (.int .i64 19) ∧ Below w.heap.size w w')) (T1 : Hid (∀ w, Calls Tryz.prog 164 #[.int .u32 a] w fun e w' => e = .returned (.int .i64 m) ∧ Below w.heap.size w w')) (T2 : Hid (∀ w, Calls Tryz.prog 141 #[.int .u32 a] w fun e w' => e = .returned (.int .i64 rd) ∧ Below w.heap.size w w')) (T3 : Hid (∀ w, Calls Tryz.prog 142 #[.int .u32 a] w fun e w' => e = .returned (.int .i64 rs1) ∧ Below w.heap.size w w')) (T4 : Hid (∀ w, Calls Tryz.prog 143 #[.int .u32 a] w fun e w' => e = .returned (.int .i64 rs2) ∧ Below w.heap.size w w'))
    (T5 : Hid (∀ w, Calls Tryz.prog 144 #[.int .u32 a, .agg #[.int .i64 9, .int .i64 0, .int .i64 rd, .int .i64 rs1, .int .i64 0, .int .i64 m, .int .i64 0, .bool false]] w fun e w' => e = .returned (.tuple #[.agg #[.int .i64 r1, .int .i64 r2, .int .i64 r3, .int .i64 r4, .int .i64 r5, .int .i64 r6, .int .i64 r7, .bool r8], .bool r9]) ∧ Below w.heap.size w w')) (w : World) :
    Calls Tryz.prog 110 #[.int .u32 a] w fun e w' => e = .returned (.tuple #[.agg #[.int .i64 r1, .int .i64 r2, .int .i64 r3, .int .i64 r4, .int .i64 r5, .int .i64 r6, .int .i64 r7, .bool r8], .bool r9]) ∧ Below w.heap.size w w' := by
  go_enter Tryz.func110, Tryz.ntmps110
  go_wp2_with (first
    | (go_at_call 136; (with_reducible refine (T0.out _).mono ?_); rintro e w' ⟨rfl, hb⟩; (try (have pr_ := Lib.hid (PR.out.call hb); clear PR; have PR := pr_)); (try (have pm_ := Lib.hid (map_below PM.out hb); clear PM; have PM := pm_)); (try (have pb_ := Lib.hid (PB.out.below hb); clear PB; have PB := pb_)); have st_ := Lib.hid (ST.out.call hb); clear ST hb; have ST := st_)
    | (go_at_call 141; (with_reducible refine (T2.out _).mono ?_); rintro e w' ⟨rfl, hb⟩; (try (have pr_ := Lib.hid (PR.out.call hb); clear PR; have PR := pr_)); (try (have pm_ := Lib.hid (map_below PM.out hb); clear PM; have PM := pm_)); (try (have pb_ := Lib.hid (PB.out.below hb); clear PB; have PB := pb_)); have st_ := Lib.hid (ST.out.call hb); clear ST hb; have ST := st_)
    | (go_at_call 142; (with_reducible refine (T3.out _).mono ?_); rintro e w' ⟨rfl, hb⟩; (try (have pr_ := Lib.hid (PR.out.call hb); clear PR; have PR := pr_)); (try (have pm_ := Lib.hid (map_below PM.out hb); clear PM; have PM := pm_)); (try (have pb_ := Lib.hid (PB.out.below hb); clear PB; have PB := pb_)); have st_ := Lib.hid (ST.out.call hb); clear ST hb; have ST := st_)
    | (go_at_call 143; (with_reducible refine (T4.out _).mono ?_); rintro e w' ⟨rfl, hb⟩; (try (have pr_ := Lib.hid (PR.out.call hb); clear PR; have PR := pr_)); (try (have pm_ := Lib.hid (map_below PM.out hb); clear PM; have PM := pm_)); (try (have pb_ := Lib.hid (PB.out.below hb); clear PB; have PB := pb_)); have st_ := Lib.hid (ST.out.call hb); clear ST hb; have ST := st_)
    | (go_at_call 144; (with_reducible refine (T5.out _).mono ?_); rintro e w' ⟨rfl, hb⟩; (try (have pr_ := Lib.hid (PR.out.call hb); clear PR; have PR := pr_)); (try (have pm_ := Lib.hid (map_below PM.out hb); clear PM; have PM := pm_)); (try (have pb_ := Lib.hid (PB.out.below hb); clear PB; have PB := pb_)); have st_ := Lib.hid (ST.out.call hb); clear ST hb; have ST := st_)
    | (go_at_call 140; (with_reducible refine (rows_calls _).mono ?_); rintro e w' ⟨mp, rfl, hb, hm⟩; have st_ := Lib.hid (ST.out.call hb); clear ST hb; have ST := st_; have PM := Lib.hid hm; clear hm)
    | ((with_reducible refine Step.gate_lookup (t := 188) rfl ?_); refine MapInt.wpList_look rfl _ _ _ _ rfl _ _ _ rfl rfl (look_19 PM.out) ?_)
    | ((with_reducible refine Step.gate_alloc (t := 186) rfl ?_); refine Step.freshAlloc rfl rfl (alloc_agg zero_row) ?_; intro q w2 b hg hb; clear PM; have PR := Lib.hid (R1.mk b (Nat.le_trans ST.out.below.size hg)); have st_ := Lib.hid (ST.out.call hb); clear ST b hg hb; have ST := st_)
    | ((with_reducible refine Step.gate_alloc (t := 44) rfl ?_); refine Step.freshAlloc rfl rfl (alloc_agg zero_inst) ?_; intro g1 w1 b hg hb; have ST := Lib.hid (S1.made b hg hb); clear b hg hb)
    | ((with_reducible refine Step.gate_store (t := 186) rfl ?_); refine Step.storeAll PR.out.blk rfl rfl rfl rfl rfl size_row rfl rfl ?_; intro w3 nb m; have st_ := Lib.hid (ST.out.other PR.out m); have pr_ := Lib.hid (R1.mk nb PR.out.lo); clear ST PR nb m; have ST := st_; have PR := pr_)
    | ((with_reducible refine Calm.region_alloc (id := 11) (fin := ?fin_8) ?hm_8 8 7 6 ?o1_8 (.cells #[.int .i64 0, .int .i64 0, .int .i64 0, .int .i64 0, .int .i64 0, .int .i64 0, .int .i64 0, .bool false] 44 (0, 0)) [(37, .pointer (some ⟨q, 0, none⟩)), (38, .int .i64 9), (39, .pointer (some ⟨q, 1, none⟩)), (40, .func (.func 164) #[] #[]), (41, .int .u32 a), (42, .int .i64 m), (43, .agg #[.int .i64 9, .int .i64 0, .int .i64 0, .int .i64 0, .int .i64 0, .int .i64 m, .int .i64 0, .bool false])] ?hp_8 ?hin_8 ?hsolo_8 ?hoa_8 (by decide) ?hda_8 ?hga_8 ?hrun_8 ?hfin_8 ?hcalm_8 ?_); (case hm_8 => rfl); (case hoa_8 => rfl); (case hp_8 => kernel_rfl); (case hin_8 => kernel_rfl); (case hsolo_8 => kernel_rfl); (case hda_8 => rfl); (case hga_8 => rfl); (case hrun_8 => exact alloc_run rfl zero_inst); (case hfin_8 => (simp only [Reg.puts, Act.put, List.setIfInBounds_toArray, List.set_cons_zero, List.set_cons_succ]; try rfl)); (case hcalm_8 => (simp only [List.take, List.eraseIdx]; (repeat' (first | exact Calm.calm_nil | refine Calm.calm_cons ?_ ?_)); all_goals (first | exact calm_callg rfl rfl (fun X => by go_simp) (fun X => T1.out X) rfl | exact calm_load PR.out.blk rfl rfl rfl pl_int rfl rfl | exact calm_load PR.out.blk rfl rfl rfl pl_func rfl rfl | exact calm_slot rfl rfl (fun X => by first | (go_simp; done) | (go_simp; rfl))))); intro g2 w1 hg hlt hb ho; have st_ := Lib.hid (ST.out.more ⟨ho⟩ hg hb); have pr_ := Lib.hid (PR.out.call hb); clear ST PR; have ST := st_; have PR := pr_; clear hg hlt hb ho; simp only [List.drop, Calm.ptr, Act.put, List.setIfInBounds_toArray, List.set_cons_zero, List.set_cons_succ])
    | ((with_reducible refine Step.gate_load (t := 3) rfl ?_); refine Step.load PR.out.blk rfl rfl rfl pl_int rfl ?_)
    | ((with_reducible refine Step.gate_load (t := 4) rfl ?_); refine Step.load PR.out.blk rfl rfl rfl pl_bool rfl ?_)
    | ((with_reducible refine Step.gate_load (t := 184) rfl ?_); refine Step.load PR.out.blk rfl rfl rfl pl_func rfl ?_)
    | ((with_reducible refine Step.gate_store (t := 3) rfl ?_); refine Step.store ST.out.one rfl rfl rfl rfl rfl pl_int rfl rfl ?_; intro w3 nb m; (try (have pr_ := Lib.hid (PR.out.keep ST.out.one m); clear PR; have PR := pr_)); have st_ := Lib.hid (ST.out.set1 nb m); clear ST nb m; have ST := st_)
    | ((with_reducible refine Step.gate_store (t := 4) rfl ?_); refine Step.store ST.out.one rfl rfl rfl rfl rfl pl_bool rfl rfl ?_; intro w3 nb m; (try (have pr_ := Lib.hid (PR.out.keep ST.out.one m); clear PR; have PR := pr_)); have st_ := Lib.hid (ST.out.set1 nb m); clear ST nb m; have ST := st_)
    | ((with_reducible refine Step.gate_store (t := 44) rfl ?_); refine Step.storeAll ST.out.one rfl rfl rfl rfl rfl size_inst rfl rfl ?_; intro w3 nb m; (try (have pr_ := Lib.hid (PR.out.keep ST.out.one m); clear PR; have PR := pr_)); have st_ := Lib.hid (ST.out.set1 nb m); clear ST nb m; have ST := st_)
    | ((with_reducible refine Step.gate_load (t := 3) rfl ?_); refine Step.load ST.out.one rfl rfl rfl pl_int rfl ?_)
    | ((with_reducible refine Step.gate_load (t := 4) rfl ?_); refine Step.load ST.out.one rfl rfl rfl pl_bool rfl ?_)
    | ((with_reducible refine Step.gate_load (t := 44) rfl ?_); refine Step.loadAll ST.out.one rfl rfl rfl Tryz.underlying44 rfl size_inst ?_)
    | ((with_reducible refine Step.gate_store (t := 3) rfl ?_); refine Step.store ST.out.two rfl rfl rfl rfl rfl pl_int rfl rfl ?_; intro w3 nb m; (try (have pr_ := Lib.hid (PR.out.keep ST.out.two m); clear PR; have PR := pr_)); have st_ := Lib.hid (ST.out.set2 nb m); clear ST nb m; have ST := st_)
    | ((with_reducible refine Step.gate_store (t := 4) rfl ?_); refine Step.store ST.out.two rfl rfl rfl rfl rfl pl_bool rfl rfl ?_; intro w3 nb m; (try (have pr_ := Lib.hid (PR.out.keep ST.out.two m); clear PR; have PR := pr_)); have st_ := Lib.hid (ST.out.set2 nb m); clear ST nb m; have ST := st_)
    | ((with_reducible refine Step.gate_store (t := 44) rfl ?_); refine Step.storeAll ST.out.two rfl rfl rfl rfl rfl size_inst rfl rfl ?_; intro w3 nb m; (try (have pr_ := Lib.hid (PR.out.keep ST.out.two m); clear PR; have PR := pr_)); have st_ := Lib.hid (ST.out.set2 nb m); clear ST nb m; have ST := st_)
    | ((with_reducible refine Step.gate_load (t := 3) rfl ?_); refine Step.load ST.out.two rfl rfl rfl pl_int rfl ?_)
    | ((with_reducible refine Step.gate_load (t := 4) rfl ?_); refine Step.load ST.out.two rfl rfl rfl pl_bool rfl ?_)
    | ((with_reducible refine Step.gate_load (t := 44) rfl ?_); refine Step.loadAll ST.out.two rfl rfl rfl Tryz.underlying44 rfl size_inst ?_))
  refine bodyPost_ret (results_row_tmp rfl _ _ g1 _ _ _ rfl ST.out.one Tryz.underlying44 rfl size_inst) rfl ⟨rfl, ST.out.below⟩
theorem decode_115 (a r1 r2 r3 r4 r5 r6 r7 : Int) (r8 r9 : Bool) (T0 : Hid (∀ w, Calls Tryz.prog 136 #[.int .u32 a] w fun e w' => e = .returned (.int .i64 115) ∧ Below w.heap.size w w')) (T5 : Hid (∀ w, Calls Tryz.prog 138 #[.int .u32 a] w fun e w' => e = .returned (.tuple #[.agg #[.int .i64 r1, .int .i64 r2, .int .i64 r3, .int .i64 r4, .int .i64 r5, .int .i64 r6, .int .i64 r7, .bool r8], .bool r9]) ∧ Below w.heap.size w w')) (w : World) :
    Calls Tryz.prog 110 #[.int .u32 a] w fun e w' => e = .returned (.tuple #[.agg #[.int .i64 r1, .int .i64 r2, .int .i64 r3, .int .i64 r4, .int .i64 r5, .int .i64 r6, .int .i64 r7, .bool r8], .bool r9]) ∧ Below w.heap.size w w' := by
  go_enter Tryz.func110, Tryz.ntmps110
  go_wp2_with (first
    | (go_at_call 136; (with_reducible refine (T0.out _).mono ?_); rintro e w' ⟨rfl, hb⟩; (try (have pr_ := Lib.hid (PR.out.call hb); clear PR; have PR := pr_)); (try (have pm_ := Lib.hid (map_below PM.out hb); clear PM; have PM := pm_)); (try (have pb_ := Lib.hid (PB.out.below hb); clear PB; have PB := pb_)); have st_ := Lib.hid (ST.out.call hb); clear ST hb; have ST := st_)
    | (go_at_call 138; (with_reducible refine (T5.out _).mono ?_); rintro e w' ⟨rfl, hb⟩; (try (have pr_ := Lib.hid (PR.out.call hb); clear PR; have PR := pr_)); (try (have pm_ := Lib.hid (map_below PM.out hb); clear PM; have PM := pm_)); (try (have pb_ := Lib.hid (PB.out.below hb); clear PB; have PB := pb_)); have st_ := Lib.hid (ST.out.call hb); clear ST hb; have ST := st_)
    | ((with_reducible refine Step.gate_alloc (t := 44) rfl ?_); refine Step.freshAlloc rfl rfl (alloc_agg zero_inst) ?_; intro g1 w1 b hg hb; have ST := Lib.hid (S1.made b hg hb); clear b hg hb)
    | ((with_reducible refine Step.gate_store (t := 3) rfl ?_); refine Step.store ST.out.one rfl rfl rfl rfl rfl pl_int rfl rfl ?_; intro w3 nb m; have st_ := Lib.hid (ST.out.set1 nb m); clear ST nb m; have ST := st_)
    | ((with_reducible refine Step.gate_store (t := 4) rfl ?_); refine Step.store ST.out.one rfl rfl rfl rfl rfl pl_bool rfl rfl ?_; intro w3 nb m; have st_ := Lib.hid (ST.out.set1 nb m); clear ST nb m; have ST := st_)
    | ((with_reducible refine Step.gate_store (t := 44) rfl ?_); refine Step.storeAll ST.out.one rfl rfl rfl rfl rfl size_inst rfl rfl ?_; intro w3 nb m; have st_ := Lib.hid (ST.out.set1 nb m); clear ST nb m; have ST := st_)
    | ((with_reducible refine Step.gate_load (t := 3) rfl ?_); refine Step.load ST.out.one rfl rfl rfl pl_int rfl ?_)
    | ((with_reducible refine Step.gate_load (t := 4) rfl ?_); refine Step.load ST.out.one rfl rfl rfl pl_bool rfl ?_)
    | ((with_reducible refine Step.gate_load (t := 44) rfl ?_); refine Step.loadAll ST.out.one rfl rfl rfl Tryz.underlying44 rfl size_inst ?_))
  refine bodyPost_ret (results_row_tmp rfl _ _ g1 _ _ _ rfl ST.out.one Tryz.underlying44 rfl size_inst) rfl ⟨rfl, ST.out.below⟩
end Go.Proofs.YthkodjkkcgdmfaaGreat.Enc
end
section
namespace Go.Proofs.YthkodjkkcgdmfaaGreat.Hart
open Go Go.RowKit Go.Proofs.YthkodjkkcgdmfaaGreat.Step Go.Proofs.YthkodjkkcgdmfaaGreat.Enc Go.Proofs.YthkodjkkcgdmfaaGreat.Kn
open Go.Proofs.YthkodjkkcgdmfaaGreat.Mem (Ram Grow hasB wholeB num wr)
set_option linter.unusedVariables false
set_option linter.unusedSimpArgs false
set_option maxRecDepth 100000
/-- What instructions do, by their kinds. -/
def kindsE : Array MapEntry := #[{ key := .int .i64 1, val := .func (.func 87) #[] #[], born := 0 }, { key := .int .i64 2, val := .func (.func 88) #[] #[], born := 1 }, { key := .int .i64 3, val := .func (.func 89) #[] #[], born := 2 }, { key := .int .i64 4, val := .func (.func 90) #[] #[], born := 3 }, { key := .int .i64 5, val := .func (.func 91) #[] #[], born := 4 }, { key := .int .i64 6, val := .func (.func 92) #[] #[], born := 5 }, { key := .int .i64 7, val := .func (.func 93) #[] #[], born := 6 }, { key := .int .i64 8, val := .func (.func 94) #[] #[], born := 7 }, { key := .int .i64 9, val := .func (.func 95) #[] #[], born := 8 }, { key := .int .i64 10, val := .func (.func 96) #[] #[], born := 9 }, { key := .int .i64 11, val := .func (.func 97) #[] #[], born := 10 }, { key := .int .i64 12, val := .func (.func 98) #[] #[], born := 11 }, { key := .int .i64 13, val := .func (.func 99) #[] #[], born := 12 }, { key := .int .i64 14, val := .func (.func 100) #[] #[], born := 13 }, { key := .int .i64 15, val := .func (.func 101) #[] #[], born := 14 }, { key := .int .i64 16, val := .func (.func 102) #[] #[], born := 15 }, { key := .int .i64 17, val := .func (.func 103) #[] #[], born := 16 }, { key := .int .i64 18, val := .func (.func 104) #[] #[], born := 17 }, { key := .int .i64 19, val := .func (.func 105) #[] #[], born := 18 }, { key := .int .i64 20, val := .func (.func 106) #[] #[], born := 19 }]
/-- The map of the kinds, and what belongs to the core besides. -/
def KT (r : Nat) (T : World → Prop) : World → Prop := fun w => w.heap[r]? = some (.map kindsE 20) ∧ T w
section
variable {W w' : World} {gs gm n : Nat} {s' : Stp} {tv km : Value} {root vmid base : Int} {mem' : Nat → Int} {F G : Nat → Prop} {T : World → Prop}
theorem Out.drew (h : Out W w' gs s' gm tv root vmid km base n mem' F G T) : Out W { w' with drawn := w'.drawn + 1 } gs s' gm tv root vmid km base n mem' F G T := h.below ⟨rfl, rfl, rfl, Nat.le_refl _, fun _ _ => rfl⟩
theorem Out.core (h : Out W w' gs s' gm tv root vmid km base n mem' F G T) : Blk w' s'.gc (ccells gm tv root vmid 1 km) TC := by obtain ⟨F', a, _⟩ := h; exact a.mc.core
theorem Out.tlb (h : Out W w' gs s' gm tv root vmid km base n mem' F G T) : T w' := by obtain ⟨F', a, _⟩ := h; exact a.mc.tlb
theorem Out.then {F1 : Nat → Prop} {w2 : World} (m : Mod (fun k => k = gs ∨ F k) W w') (c : ∀ k, F1 k → F k ∨ W.heap.size ≤ k) (h : Out w' w2 gs s' gm tv root vmid km base n mem' F1 G T) : Out W w2 gs s' gm tv root vmid km base n mem' F G T := by
  obtain ⟨F2, a2, m2, c2⟩ := h
  exact ⟨F2, a2, m.trans_new m2 fun i hi e => e.imp id fun hf => (c i hf).resolve_right (by omega), fun i hi => (c2 i hi).elim (c i) fun e => .inr (Nat.le_trans m.size e)⟩
end
theorem pl_km : Step.plainT Tryz.prog 127 = true := by kernel_rfl
theorem seq_look {P : Program} {ops : Array Oper} {I : World → Prop} {o : Oper} {rr : List Oper} {a : Act} {K : Act → Prop} {t kt et : TypeId} {m x : Operand} {r i : Nat} {k : Int} {es : Array MapEntry} {c : Nat} {v : Value} (hT : ∀ X, I X → X.heap[r]? = some (.map es c)) (hg : o.guard = none) (ho : o.op = .lookup t m x false) (hm : a.eval m = .map (some r)) (hx : a.eval x = .int .i64 k)
    (ht : P.underlying t = some (.map kt et)) (hk : P.underlying kt = some (.int .i64)) (hf : Instr.findNow (.int .i64) (.int .i64 k) es.toList 0 = some (some (i, v))) (h : Sq.Seq P ops I rr (a.put o.dst v) K) : Sq.Seq P ops I (o :: rr) a K :=
  Sq.seq_val (Sq.wanted_none hg) (fun X hX => by
    have := MapInt.run_look_one (P := P) ht hk hf X (hT X hX)
    simp [execOp, ho, hm, hx, this, Result.andThen]) h
set_option maxHeartbeats 4000000 in
theorem pending_no {W : World} {g : Nat} {s : Stp} (hb : Blk W g (sc s) TS) (hsie : s.was.sie = 0) : Calls Tryz.prog 60 #[.pointer (some ⟨g, 0, none⟩)] W fun e w' => e = .returned (.int .u64 0) ∧ Below W.heap.size W w' := by
  have e0 : bits .and .u64 s.was.sip 0 = 0 := by show IntKind.u64.wrap ((BitVec.ofInt 64 s.was.sip &&& 0).toNat : Int) = 0; first | (simp; done) | (simp; decide)
  have HB := Lib.hid hb
  have ST := Lib.hid (Kn.nil (S := Step.Nil) (W := W))
  clear hb
  go_enter Tryz.func60, Tryz.ntmps60
  go_wp2_with (first
    | ((with_reducible refine Sq.region (id := 1) (I := fun X => Below W.heap.size W X) ?hm4 10 (Below.refl _ _).drew ?hp4 ?hs4); (case hm4 => rfl); (case hp4 => kernel_rfl); intro ops K hops hK; clear hops; dsimp only [List.take]; (repeat (first | (refine Sq.seq_move rfl rfl ?_; simp only [Act.put, Act.eval, Array.getD_eq_getD_getElem?, List.getElem?_toArray, List.getElem?_cons_zero, List.getElem?_cons_succ, Option.getD_some, List.setIfInBounds_toArray, List.set_cons_zero, List.set_cons_succ]) | (refine Sq.seq_check rfl rfl rfl ?_; simp only [Act.put, Act.eval, Array.getD_eq_getD_getElem?, List.getElem?_toArray, List.getElem?_cons_zero, List.getElem?_cons_succ, Option.getD_some, List.setIfInBounds_toArray, List.set_cons_zero, List.set_cons_succ]) | (refine Sq.seq_load (t := 22) (fun X hX => HB.out.below hX) (Sq.wanted_none rfl) rfl rfl pl_u64 (sv_ok _ (by decide)) ?_; simp only [Act.put, Act.eval, Array.getD_eq_getD_getElem?, List.getElem?_toArray, List.getElem?_cons_zero, List.getElem?_cons_succ, Option.getD_some, List.setIfInBounds_toArray, List.set_cons_zero, List.set_cons_succ, sv_dry, sv_now, sv_k, sv_fn, sv_rd, sv_rs1, sv_rs2, sv_imm, sv_sz, sv_sg, sv_long, sv_bits, sv_ek, sv_ea, sv_eva, sv_egpa, sv_ewalk, sv_ewrote, sv_was_pc, sv_was_user, sv_was_on, sv_was_spie, sv_was_spp, sv_was_sum, sv_was_mxr, sv_was_rsv, sv_was_stvec, sv_was_sscr, sv_was_sepc, sv_was_scause, sv_was_stval, sv_was_sie, sv_was_sip, sv_was_satp, sv_was_resv, sv_h_pc, sv_h_user, sv_h_on, sv_h_spie, sv_h_spp, sv_h_sum, sv_h_mxr, sv_h_rsv, sv_h_stvec, sv_h_sscr, sv_h_sepc, sv_h_scause, sv_h_stval, sv_h_sie, sv_h_sip, sv_h_satp, sv_h_resv, sv_c, hsie]) | (refine Sq.seq_load (t := 3) (fun X hX => HB.out.below hX) (Sq.wanted_none rfl) rfl rfl pl_int (sv_ok _ (by decide)) ?_; simp only [Act.put, Act.eval, Array.getD_eq_getD_getElem?, List.getElem?_toArray, List.getElem?_cons_zero, List.getElem?_cons_succ, Option.getD_some, List.setIfInBounds_toArray, List.set_cons_zero, List.set_cons_succ, sv_dry, sv_now, sv_k, sv_fn, sv_rd, sv_rs1, sv_rs2, sv_imm, sv_sz, sv_sg, sv_long, sv_bits, sv_ek, sv_ea, sv_eva, sv_egpa, sv_ewalk, sv_ewrote, sv_was_pc, sv_was_user, sv_was_on, sv_was_spie, sv_was_spp, sv_was_sum, sv_was_mxr, sv_was_rsv, sv_was_stvec, sv_was_sscr, sv_was_sepc, sv_was_scause, sv_was_stval, sv_was_sie, sv_was_sip, sv_was_satp, sv_was_resv, sv_h_pc, sv_h_user, sv_h_on, sv_h_spie, sv_h_spp, sv_h_sum, sv_h_mxr, sv_h_rsv, sv_h_stvec, sv_h_sscr, sv_h_sepc, sv_h_scause, sv_h_stval, sv_h_sie, sv_h_sip, sv_h_satp, sv_h_resv, sv_c, hsie]) | (refine Sq.seq_load (t := 4) (fun X hX => HB.out.below hX) (Sq.wanted_none rfl) rfl rfl pl_bool (sv_ok _ (by decide)) ?_; simp only [Act.put, Act.eval, Array.getD_eq_getD_getElem?, List.getElem?_toArray, List.getElem?_cons_zero, List.getElem?_cons_succ, Option.getD_some, List.setIfInBounds_toArray, List.set_cons_zero, List.set_cons_succ, sv_dry, sv_now, sv_k, sv_fn, sv_rd, sv_rs1, sv_rs2, sv_imm, sv_sz, sv_sg, sv_long, sv_bits, sv_ek, sv_ea, sv_eva, sv_egpa, sv_ewalk, sv_ewrote, sv_was_pc, sv_was_user, sv_was_on, sv_was_spie, sv_was_spp, sv_was_sum, sv_was_mxr, sv_was_rsv, sv_was_stvec, sv_was_sscr, sv_was_sepc, sv_was_scause, sv_was_stval, sv_was_sie, sv_was_sip, sv_was_satp, sv_was_resv, sv_h_pc, sv_h_user, sv_h_on, sv_h_spie, sv_h_spp, sv_h_sum, sv_h_mxr, sv_h_rsv, sv_h_stvec, sv_h_sscr, sv_h_sepc, sv_h_scause, sv_h_stval, sv_h_sie, sv_h_sip, sv_h_satp, sv_h_resv, sv_c, hsie]) | (refine' Sq.seq_pure rfl (fun X => _) _; rotate_left; (first | (go_simp; done) | (go_simp; rfl)); simp only [Act.put, Act.eval, Array.getD_eq_getD_getElem?, List.getElem?_toArray, List.getElem?_cons_zero, List.getElem?_cons_succ, Option.getD_some, List.setIfInBounds_toArray, List.set_cons_zero, List.set_cons_succ]))); refine Sq.seq_nil ?_; refine hK.out _ fun w1 hk => ?_; clear hK; have BW := Lib.hid hk; clear hk; dsimp only [List.drop]))
  go_ret
  exact ⟨rfl, BW.out⟩
/-- The step behind the fetch and the decoding. -/
def decP (s : Stp) (w : Int) (i : Ins) : Stp := { s with bits := w, long := 4, k := i.k, fn := i.fn, rd := i.rd, rs1 := i.rs1, rs2 := i.rs2, imm := i.imm, sz := i.sz, sg := i.sg, h := { s.h with pc := addW s.was.pc 4 } }
def zeroX (s : Stp) : Stp := { s with h := { s.h with x := xup s.h.x 0 0 } }
end Go.Proofs.YthkodjkkcgdmfaaGreat.Hart
end
section
namespace Go.Proofs.YthkodjkkcgdmfaaGreat.Hart
open Go Go.RowKit Go.Proofs.YthkodjkkcgdmfaaGreat.Step Go.Proofs.YthkodjkkcgdmfaaGreat.Enc Go.Proofs.YthkodjkkcgdmfaaGreat.Kn
set_option linter.unusedVariables false
set_option linter.unusedSimpArgs false
set_option maxRecDepth 100000
def ccg (gm : Nat) (tv : Value) (root vmid done st : Int) (km : Value) : Array Value := #[.pointer (some ⟨gm, 0, none⟩), tv, .int .u64 root, .int .i64 vmid, .int .u32 done, .int .i32 st, .int .u32 0, km]
theorem disable (w : World) : (callFunc 170 #[]).run Tryz.prog w = .ok (.value (.tuple #[])) w := run_call_mark0 Tryz.func170 (by kernel_rfl) (by kernel_rfl) (by kernel_rfl) .disable (by kernel_rfl) w
theorem enable (w : World) : (callFunc 172 #[]).run Tryz.prog w = .ok (.value (.tuple #[])) w := run_call_mark0 Tryz.func172 (by kernel_rfl) (by kernel_rfl) (by kernel_rfl) .enable (by kernel_rfl) w
theorem acquire (a : Addr) (w : World) : (callFunc 173 #[.pointer (some a)]).run Tryz.prog w = .ok (.value (.tuple #[])) w := run_call_marked Tryz.func173 (by kernel_rfl) (by kernel_rfl) (by kernel_rfl) .acquire (by kernel_rfl) a w
theorem releaseMerge (a : Addr) (w : World) : (callFunc 175 #[.pointer (some a)]).run Tryz.prog w = .ok (.value (.tuple #[])) w := run_call_marked Tryz.func175 (by kernel_rfl) (by kernel_rfl) (by kernel_rfl) .releaseMerge (by kernel_rfl) a w
theorem ilock (a : Addr) (w : World) (hc : w.cell? a = some (.int .i32 0)) (hz : w.frozen? a = false) :
    Calls Tryz.prog 145 #[.pointer (some a)] w fun e w' => e = .returned (.tuple #[]) ∧ w' = w.setCell a (.int .i32 1) := by
  have hd := disable
  have he := enable
  have ha := acquire
  have hcas := run_call_cas_hit (P := Tryz.prog) Tryz.func171 (by kernel_rfl) (by kernel_rfl) (by kernel_rfl) .i32 (by kernel_rfl) (y := 1) hc hz
  have hc' : (w.setCell a (.int .i32 1)).cell? a = some (.int .i32 1) := World.cell?_setCell_same w a _ hc
  have hcv := run_convert_to_unsafe (P := Tryz.prog) (src := 211) (dst := 215) Tryz.underlying211 Tryz.underlying215 (by kernel_rfl) hc'
  go_enter Tryz.func145, Tryz.ntmps145
  go_wp2
  all_goals (first | go_end0 | (simp only [Exit.inBlock, Exit.then]; refine bodyPost_ret (results_none rfl _ _ _) rfl ?_) | refine bodyPost_ret (results_none rfl _ _ _) rfl ?_)
  all_goals exact ⟨rfl, rfl⟩
theorem iunlock (a : Addr) (w : World) (hc : w.cell? a = some (.int .i32 1)) (hz : w.frozen? a = false) :
    Calls Tryz.prog 146 #[.pointer (some a)] w fun e w' => e = .returned (.tuple #[]) ∧ w' = w.setCell a (.int .i32 0) := by
  have hd := disable
  have he := enable
  have hr := releaseMerge
  have hadd := run_call_add (P := Tryz.prog) Tryz.func176 (by kernel_rfl) (by kernel_rfl) (by kernel_rfl) .i32 (by kernel_rfl) (y := -1) (s := 0) hc hz (by simp [go_sem]; rfl)
  have hcv := run_convert_to_unsafe (P := Tryz.prog) (src := 211) (dst := 215) Tryz.underlying211 Tryz.underlying215 (by kernel_rfl) hc
  go_enter Tryz.func146, Tryz.ntmps146
  go_wp2
  all_goals go_end0
  all_goals exact ⟨rfl, rfl⟩
theorem lock {w : World} {gc gm : Nat} {tv km : Value} {root vmid done : Int} (hb : Blk w gc (ccg gm tv root vmid done 0 km) TC) : Calls Tryz.prog 116 #[.pointer (some ⟨gc, 5, none⟩)] w fun e w' => e = .returned (.tuple #[]) ∧ Blk w' gc (ccg gm tv root vmid done 1 km) TC ∧ Mod (One gc) w w' := by
  have T0 := Lib.hid (ilock ⟨gc, 5, none⟩ w ((hb.cell 5).trans rfl) (hb.frozen 5))
  have HB := Lib.hid hb
  clear hb
  go_enter Tryz.func116, Tryz.ntmps116
  go_wp2_with (go_at_call 145; (with_reducible refine (T0.out).mono ?_); rintro e w' ⟨rfl, hw⟩; have HW := Lib.hid hw; clear hw)
  all_goals go_end0
  have e := HW.out
  subst e
  exact ⟨rfl, setCell_out _ _ _ _ _ _ HB.out, setCell_mod _ _ _ _⟩
theorem unlock {w : World} {gc gm : Nat} {tv km : Value} {root vmid done : Int} (hb : Blk w gc (ccg gm tv root vmid done 1 km) TC) (u : FrameMode) : CallsD Tryz.prog 117 #[.pointer (some ⟨gc, 5, none⟩)] u w fun e u' w' => u' = u ∧ (e = .returned (.tuple #[]) ∧ Blk w' gc (ccg gm tv root vmid done 0 km) TC ∧ Mod (One gc) w w') := by
  have T0 := Lib.hid (iunlock ⟨gc, 5, none⟩ w ((hb.cell 5).trans rfl) (hb.frozen 5))
  have HB := Lib.hid hb
  clear hb
  go_enter_d Tryz.func117, Tryz.ntmps117
  go_wp2_with (go_at_call 146; (with_reducible refine (T0.out).mono ?_); rintro e w' ⟨rfl, hw⟩; have HW := Lib.hid hw; clear hw)
  all_goals go_end0
  have e := HW.out
  subst e
  exact ⟨rfl, setCell_out _ _ _ _ _ _ HB.out, setCell_mod _ _ _ _⟩
theorem isDone {w : World} {gc gm : Nat} {tv km : Value} {root vmid done st : Int} (hb : Blk w gc (ccg gm tv root vmid done st km) TC) (b : Bool) (hd : (done != 0) = b) : Calls Tryz.prog 85 #[.pointer (some ⟨gc, 4, none⟩)] w fun e w' => e = .returned (.bool b) ∧ w' = w := by
  have hl := run_call_load (P := Tryz.prog) Tryz.func115 (by kernel_rfl) (by kernel_rfl) (by kernel_rfl) .u32 (by kernel_rfl) (w := w) (a := ⟨gc, 4, none⟩) (x := done) ((hb.cell 4).trans rfl)
  clear hb
  go_enter Tryz.func85, Tryz.ntmps85
  go_wp2
  go_ret
  exact ⟨rfl, rfl⟩
theorem setDone {w : World} {gc gm : Nat} {tv km : Value} {root vmid done st : Int} (hb : Blk w gc (ccg gm tv root vmid done st km) TC) (u : FrameMode) : CallsD Tryz.prog 118 #[.pointer (some ⟨gc, 4, none⟩), .bool true] u w fun e u' w' => u' = u ∧ (e = .returned (.tuple #[]) ∧ Blk w' gc (ccg gm tv root vmid 1 st km) TC ∧ Mod (One gc) w w') := by
  have hc : w.drew.cell? ⟨gc, 4, none⟩ = some (.int .u32 done) := by rw [World.cell?_drew]; exact (hb.cell 4).trans rfl
  have hz : w.drew.frozen? ⟨gc, 4, none⟩ = false := hb.frozen 4
  have hst := run_call_store (P := Tryz.prog) Tryz.func147 (by kernel_rfl) (by kernel_rfl) (by kernel_rfl) (by kernel_rfl) (k := .u32) (y := 1) hc hz
  have HB := Lib.hid (show Blk w.drew gc (ccg gm tv root vmid done st km) TC from hb.below ⟨rfl, rfl, rfl, Nat.le_refl _, fun _ _ => rfl⟩)
  clear hb
  go_enter_d Tryz.func118, Tryz.ntmps118
  go_wp2
  go_region_calls
  all_goals (go_end0; exact ⟨rfl, setCell_out _ _ _ _ _ _ HB.out, (Mod.of_below (Below.drew (Below.refl _ _)) _).trans (setCell_mod _ _ _ _)⟩)
def kindE (n : Nat) : Array MapEntry := (kindsE.toList.take n).toArray
theorem kind_put (n : Nat) (k : Int) (v : Value) (hf : Instr.findNow (.int .i64) (.int .i64 k) (kindE n).toList 0 = some none) (he : (kindE n).push { key := .int .i64 k, val := v, born := n } = kindE (n + 1)) (W : World) :
    (Instr.mapUpdate 127 (.map (some W.heap.size)) (.int .i64 k) v).run Tryz.prog (W.alloc (.map (kindE n) n)) = .ok () (W.alloc (.map (kindE (n + 1)) (n + 1))) := by
  rw [← he]; exact MapInt.run_put Tryz.underlying127 Tryz.underlying3 _ _ _ _ hf W
theorem kind_make (W : World) : (Instr.makeMap 127 none).run Tryz.prog W = .ok (.map (some W.heap.size)) (W.alloc (.map (kindE 0) 0)) := by rfl
set_option maxHeartbeats 4000000 in
theorem kinds_calls (w : World) : Calls Tryz.prog 59 #[] w fun e w' => e = .returned (.map (some w.heap.size)) ∧ Below w.heap.size w w' ∧ w'.heap[w.heap.size]? = some (.map kindsE 20) := by
  have h0 := kind_make
  have g0 := kind_put 0 1 (.func (.func 87) #[] #[]) rfl rfl
  have g1 := kind_put 1 2 (.func (.func 88) #[] #[]) rfl rfl
  have g2 := kind_put 2 3 (.func (.func 89) #[] #[]) rfl rfl
  have g3 := kind_put 3 4 (.func (.func 90) #[] #[]) rfl rfl
  have g4 := kind_put 4 5 (.func (.func 91) #[] #[]) rfl rfl
  have g5 := kind_put 5 6 (.func (.func 92) #[] #[]) rfl rfl
  have g6 := kind_put 6 7 (.func (.func 93) #[] #[]) rfl rfl
  have g7 := kind_put 7 8 (.func (.func 94) #[] #[]) rfl rfl
  have g8 := kind_put 8 9 (.func (.func 95) #[] #[]) rfl rfl
  have g9 := kind_put 9 10 (.func (.func 96) #[] #[]) rfl rfl
  have g10 := kind_put 10 11 (.func (.func 97) #[] #[]) rfl rfl
  have g11 := kind_put 11 12 (.func (.func 98) #[] #[]) rfl rfl
  have g12 := kind_put 12 13 (.func (.func 99) #[] #[]) rfl rfl
  have g13 := kind_put 13 14 (.func (.func 100) #[] #[]) rfl rfl
  have g14 := kind_put 14 15 (.func (.func 101) #[] #[]) rfl rfl
  have g15 := kind_put 15 16 (.func (.func 102) #[] #[]) rfl rfl
  have g16 := kind_put 16 17 (.func (.func 103) #[] #[]) rfl rfl
  have g17 := kind_put 17 18 (.func (.func 104) #[] #[]) rfl rfl
  have g18 := kind_put 18 19 (.func (.func 105) #[] #[]) rfl rfl
  have g19 := kind_put 19 20 (.func (.func 106) #[] #[]) rfl rfl
  go_enter Tryz.func59, Tryz.ntmps59
  go_wp2
  go_ret
  exact ⟨rfl, alloc_below _ _, (MapKept.heap_alloc _ _).1⟩
set_option maxHeartbeats 4000000 in
theorem closure_calls {W : World} {b : Nat} {gc gm : Nat} {tv km : Value} {root vmid done st : Int} (hx : Blk W b #[.pointer (some ⟨gc, 0, none⟩)] 36) (hb : Blk W gc (ccg gm tv root vmid done st km) TC) : Calls Tryz.prog 58 #[.pointer (some ⟨b, 0, none⟩)] W fun e w' => e = .returned (.tuple #[]) ∧ Blk w' gc (ccg gm tv root vmid done st (.map (some W.heap.size))) TC ∧ Mod (One gc) W w' ∧ w'.heap[W.heap.size]? = some (.map kindsE 20) := by
  have HX := Lib.hid hx
  have HC := Lib.hid hb
  clear hx hb
  go_enter Tryz.func58, Tryz.ntmps58
  go_wp2_with (first
    | ((with_reducible refine Sq.regionJ (id := 0) (J := fun j X => Below W.heap.size W X ∧ (match j with | 0 => X.heap.size = W.heap.size | _ => X.heap[W.heap.size]? = some (.map kindsE 20))) ?hm5 2 [1] [.keep 0 1, .eff 0] ?hi5 ?hp5 ?hf5 ?hs5); (case hm5 => rfl); (case hi5 => exact ⟨(Below.refl _ _).drew, rfl⟩); (case hp5 => kernel_rfl); (case hf5 => kernel_rfl); intro ops K hops hK; clear hops; dsimp only [List.take]; (repeat (first | (refine Sq.seqJ_load (t := 36) (fun j _ _ X hX => HX.out.below hX.1) (Sq.wanted_none rfl) rfl rfl pl_pc (v := .pointer (some ⟨gc, 0, none⟩)) rfl ?_; simp only [Act.put, Act.eval, Array.getD_eq_getD_getElem?, List.getElem?_toArray, List.getElem?_cons_zero, List.getElem?_cons_succ, Option.getD_some, List.setIfInBounds_toArray, List.set_cons_zero, List.set_cons_succ]) | (refine Sq.seqJ_turn (v := .map (some W.heap.size)) 59 rfl (Sq.wanted_none rfl) (fun X => ?_) (fun X hX => (kinds_calls X).mono fun e X' h => ?_) ?_; (focus (first | (go_simp; done) | (go_simp; rfl))); (focus (exact ⟨by rw [h.1, show X.heap.size = W.heap.size from hX.2], below_below hX.1 h.2.1, (show X.heap.size = W.heap.size from hX.2) ▸ h.2.2⟩)); simp only [Act.put, Act.eval, Array.getD_eq_getD_getElem?, List.getElem?_toArray, List.getElem?_cons_zero, List.getElem?_cons_succ, Option.getD_some, List.setIfInBounds_toArray, List.set_cons_zero, List.set_cons_succ]))); refine Sq.seqJ_nil ?_; refine hK.out _ fun w1 hk => ?_; clear hK; have BW := Lib.hid hk.1; have MW := Lib.hid (show w1.heap[W.heap.size]? = some (.map kindsE 20) from hk.2); clear hk; dsimp only [List.drop])
    | ((with_reducible refine Step.gate_store (t := 127) rfl ?_); refine Step.store (v := .map (some W.heap.size)) (HC.out.below BW.out) rfl rfl rfl rfl rfl pl_km rfl rfl ?_; intro w3 nb m; have NB := Lib.hid nb; have NM := Lib.hid m; clear nb m))
  all_goals (first | go_ret | go_end0 | refine bodyPost_ret (results_none rfl _ _ _) rfl ?_)
  have hlt := HC.out.lt
  exact ⟨rfl, NB.out, (Mod.of_below BW.out _).trans NM.out, (NM.out.block _ (Array.getElem?_eq_some_iff.1 MW.out).1 (fun e => by have e' : W.heap.size = gc := e; omega)).trans MW.out⟩
theorem fcall_not (x : Bool) (w : World) : (Op.unary .not (.bool x)).run Tryz.prog w = .ok (.bool (!x)) w := rfl
set_option maxHeartbeats 4000000 in
theorem doSlow {W : World} {b : Nat} {gc gm : Nat} {tv km : Value} {root vmid : Int} (hx : Blk W b #[.pointer (some ⟨gc, 0, none⟩)] 36) (hb : Blk W gc (ccg gm tv root vmid 0 0 km) TC) (hne : b ≠ gc) :
    Calls Tryz.prog 86 #[.pointer (some ⟨gc, 4, none⟩), .func (.func 58) #[] #[.pointer (some ⟨b, 0, none⟩)]] W fun e w' => e = .returned (.tuple #[]) ∧ ∃ r, W.heap.size ≤ r ∧ Blk w' gc (ccg gm tv root vmid 1 0 (.map (some r))) TC ∧ Mod (One gc) W w' ∧ w'.heap[r]? = some (.map kindsE 20) := by
  have hnot := fcall_not
  have HX := Lib.hid hx
  have HC := Lib.hid hb
  have HN := Lib.hid hne
  clear hx hb hne
  go_enter_defers Tryz.func86, Tryz.ntmps86
  go_wp2_with (first
    | (go_at_call 116; (with_reducible refine (lock HC.out).mono ?_); rintro e w' ⟨rfl, nb, m⟩; replace HC := Lib.hid nb; have M1 := Lib.hid m; replace HX := Lib.hid (HX.out.one m HN.out); clear nb m)
    | (go_at_call 85; (with_reducible refine (isDone HC.out false rfl).mono ?_); rintro e w' ⟨rfl, rfl⟩)
    | (go_at_call 58; (with_reducible refine (closure_calls HX.out HC.out).mono ?_); rintro e w' ⟨rfl, nb, m, hk⟩; have HC2 := Lib.hid nb; have M2 := Lib.hid m; have HK := Lib.hid hk; clear nb m hk))
  simp only [bodyPostD]
  refine leaves_cons (f := 118) (args := #[.pointer (some ⟨gc, 4, none⟩), .bool true]) (by simp) (by simp [go_sem]) ?_
  refine (setDone HC2.out .returning).mono ?_
  rintro e u' w'' ⟨rfl, rfl, nb3, m3⟩
  refine leaves_cons (f := 117) (args := #[.pointer (some ⟨gc, 5, none⟩)]) (by simp [settle]) (by simp [go_sem]) ?_
  refine (unlock nb3 _).mono ?_
  rintro e u' w4 ⟨rfl, rfl, nb4, m4⟩
  simp [Leaves, settle, results, Tryz.results86]
  have hk := HK.out
  have hlt := HC.out.lt
  have step : ∀ {x y : World} (r : Nat), gc < r → Mod (One gc) x y → x.heap[r]? = some (.map kindsE 20) → y.heap[r]? = some (.map kindsE 20) := fun r hr m h => (m.block r (Array.getElem?_eq_some_iff.1 h).1 (fun e => by have e' : r = gc := e; omega)).trans h
  exact ⟨_, M1.out.size, nb4, ((M1.out.trans M2.out).trans m3).trans m4, step _ hlt m4 (step _ hlt m3 hk)⟩
end Go.Proofs.YthkodjkkcgdmfaaGreat.Hart
end
