/- Parts of the walks and laws for the claim: Step, Hrt, HrtB, Bits, Pick, Cells, HrtC; no conditions beyond the theorems' own. -/
import Derived.BigQuiet
import Derived.Deep.MidRow
import Derived.Deep.RegionHeld3
import Derived.KernelRfl
import Derived.Laws.BitsAllLaws
import Derived.Laws.BitsLemmas
import Derived.Laws.CopyRow
import Derived.Laws.MakeOwn
import Derived.Laws.Rows
import Derived.Laws.Tables
import Derived.Lib.Hide
import Derived.OpenShut
import Derived.RowKit3
import Derived.Test.YthkodjkkcgdmfaaGreatProg
import Derived.WalkKit
import Derived.Test.YthkodjkkcgdmfaaGreatT1
section
namespace Go.Proofs.YthkodjkkcgdmfaaGreat.Step
open Go Go.RowKit
set_option linter.unusedVariables false
set_option linter.unusedSimpArgs false
/-- A block that is known whole. -/
structure Blk (W : World) (g : Nat) (cs : Array Value) (T : TypeId) : Prop where mk :: (out : W.heap[g]? = some (.cells cs T (0, 0)))
/-- From W to W' only what S names may have been turned; new blocks may stand behind. -/
structure Mod (S : Nat → Prop) (W W' : World) : Prop where
  os : W'.os = W.os
  tape : W'.tape = W.tape
  output : W'.output = W.output
  size : W.heap.size ≤ W'.heap.size
  block : ∀ k, k < W.heap.size → ¬ S k → W'.heap[k]? = W.heap[k]?
def Nil : Nat → Prop := fun _ => False
def One (g : Nat) : Nat → Prop := fun k => k = g
theorem Mod.refl (S : Nat → Prop) (W : World) : Mod S W W := ⟨rfl, rfl, rfl, Nat.le_refl _, fun _ _ _ => rfl⟩
theorem Mod.trans {S : Nat → Prop} {a b c : World} (h : Mod S a b) (k : Mod S b c) : Mod S a c :=
  ⟨k.os.trans h.os, k.tape.trans h.tape, k.output.trans h.output, Nat.le_trans h.size k.size, fun i hi hs => (k.block i (Nat.lt_of_lt_of_le hi h.size) hs).trans (h.block i hi hs)⟩
theorem Mod.mono {S S' : Nat → Prop} {a b : World} (h : Mod S a b) (hs : ∀ k, k < a.heap.size → S k → S' k) : Mod S' a b := ⟨h.os, h.tape, h.output, h.size, fun i hi hn => h.block i hi fun hS => hn (hs i hi hS)⟩
/-- What is newer may be turned. -/
theorem Mod.trans_new {S S' : Nat → Prop} {a b c : World} (h : Mod S a b) (k : Mod S' b c) (hn : ∀ i, i < a.heap.size → S' i → S i) : Mod S a c :=
  ⟨k.os.trans h.os, k.tape.trans h.tape, k.output.trans h.output, Nat.le_trans h.size k.size, fun i hi hs => (k.block i (Nat.lt_of_lt_of_le hi h.size) fun hS => hs (hn i hi hS)).trans (h.block i hi hs)⟩
theorem Mod.of_below {W W' : World} (h : Below W.heap.size W W') (S : Nat → Prop) : Mod S W W' := ⟨h.os, h.tape, h.output, h.size, fun k hk _ => h.block k hk⟩
theorem Mod.below {W W' : World} (h : Mod Nil W W') : Below W.heap.size W W' := ⟨h.os, h.tape, h.output, h.size, fun k hk => h.block k hk id⟩
/-- What was turned is newer than the base. -/
theorem below_mod {B : Nat} {w W W' : World} {S : Nat → Prop} (h : Below B w W) (hB : B ≤ W.heap.size) (m : Mod S W W') (hs : ∀ k, k < W.heap.size → S k → B ≤ k) : Below B w W' :=
  ⟨m.os.trans h.os, m.tape.trans h.tape, m.output.trans h.output, Nat.le_trans h.size m.size, fun k hk => (m.block k (by omega) fun hS => by have := hs k (by omega) hS; omega).trans (h.block k hk)⟩
theorem below_one {w W W' : World} {g : Nat} (h : Below w.heap.size w W) (m : Mod (One g) W W') (hg : w.heap.size ≤ g) : Below w.heap.size w W' := below_mod h h.size m fun k _ e => by obtain rfl := e; exact hg
theorem below_below {w W W' : World} (h : Below w.heap.size w W) (k : Below W.heap.size W W') : Below w.heap.size w W' := h.trans (k.mono h.size)
theorem Blk.lt {W : World} {g : Nat} {cs : Array Value} {T : TypeId} (h : Blk W g cs T) : g < W.heap.size := (Array.getElem?_eq_some_iff.1 h.out).1
theorem Blk.mod {W W' : World} {g : Nat} {cs : Array Value} {T : TypeId} {S : Nat → Prop} (h : Blk W g cs T) (m : Mod S W W') (hs : ¬ S g) : Blk W' g cs T := ⟨(m.block g h.lt hs).trans h.out⟩
theorem Blk.one {W W' : World} {g g' : Nat} {cs : Array Value} {T : TypeId} (h : Blk W g cs T) (m : Mod (One g') W W') (hs : g ≠ g') : Blk W' g cs T := h.mod m hs
theorem Blk.below {W W' : World} {g : Nat} {cs : Array Value} {T : TypeId} (h : Blk W g cs T) (m : Below W.heap.size W W') : Blk W' g cs T := ⟨(m.block g h.lt).trans h.out⟩
theorem Blk.cell {W : World} {g : Nat} {cs : Array Value} {T : TypeId} (h : Blk W g cs T) (i : Nat) : W.cell? ⟨g, i, none⟩ = cs[i]? := cell_of_row W g i cs T (0, 0) h.out
theorem Blk.frozen {W : World} {g : Nat} {cs : Array Value} {T : TypeId} (h : Blk W g cs T) (i : Nat) : W.frozen? ⟨g, i, none⟩ = false := by simp [World.frozen?, h.out]
theorem Blk.inj {W : World} {g : Nat} {cs cs' : Array Value} {T T' : TypeId} (h : Blk W g cs T) (h' : Blk W g cs' T') : cs = cs' ∧ T = T' := by
  have := h.out.symm.trans h'.out
  simpa using this
theorem setRow_out (W : World) (g : Nat) (cs cs' : Array Value) (T : TypeId) (h : Blk W g cs T) : Blk (W.setRow g cs') g cs' T := ⟨setRow_heap W g cs cs' T (0, 0) h.out⟩
theorem setRow_mod (W : World) (g : Nat) (cs' : Array Value) : Mod (One g) W (W.setRow g cs') := by
  refine ⟨rfl, rfl, rfl, by simp [World.setRow], fun k hk hs => ?_⟩
  have : g ≠ k := fun e => hs e.symm
  simp [World.setRow, Array.getElem?_modify, this]
theorem setCell_out (W : World) (g i : Nat) (u : Value) (cs : Array Value) (T : TypeId) (h : Blk W g cs T) : Blk (W.setCell ⟨g, i, none⟩ u) g (cs.setIfInBounds i u) T := ⟨by simp [World.setCell, Array.getElem?_modify, h.out]⟩
theorem setCell_mod (W : World) (g i : Nat) (u : Value) : Mod (One g) W (W.setCell ⟨g, i, none⟩ u) := by
  refine ⟨rfl, rfl, rfl, by simp [World.setCell], fun k hk hs => ?_⟩
  have : g ≠ k := fun e => hs e.symm
  simp [World.setCell, Array.getElem?_modify, this]
theorem alloc_out (W : World) (cs : Array Value) (T : TypeId) : Blk (W.alloc (.cells cs T (0, 0))) W.heap.size cs T := ⟨(MapKept.heap_alloc W _).1⟩
theorem alloc_below (W : World) (o : Obj) : Below W.heap.size W (W.alloc o) := (Below.refl _ _).alloc (Nat.le_refl _) o
section
variable {P : Program} {ops : Array Oper} {rest : List Oper} {o : Oper} {a : Act} {W : World} {Q : Exit → Act → World → Prop}
/-- Is a type's variable one cell? -/
def plainT (P : Program) (t : TypeId) : Bool := (match P.underlying t with | some (.struct _) | some (.array _ _) | none => false | _ => true) && (P.info? t).map (·.size) == some 1
theorem run_load1 {t : TypeId} (ht : plainT P t = true) {ad : Addr} {v : Value} (hc : W.cell? ad = some v) : (Instr.loadAt t (.pointer (some ad))).run P W = .ok v W := by
  unfold plainT at ht
  simp only [Bool.and_eq_true] at ht
  obtain ⟨h1, _⟩ := ht
  cases hu : P.underlying t with
  | none => rw [hu] at h1; cases h1
  | some d =>
    rw [hu] at h1
    cases d <;> simp at h1 <;> simp [Instr.loadAt, Instr.sureAddr, loadVar, isAgg, run_underlying hu, hc, Result.andThen]
theorem run_store1 {t : TypeId} (ht : plainT P t = true) {ad : Addr} {u v : Value} (hv : v.oneCell' = true) (hc : W.cell? ad = some u) (hf : W.frozen? ad = false) : (Instr.storeAt t (.pointer (some ad)) v).run P W = .ok () (W.setCell ad v) := by
  unfold plainT at ht
  simp only [Bool.and_eq_true, beq_iff_eq] at ht
  obtain ⟨_, h2⟩ := ht
  cases hi : P.info? t with
  | none => rw [hi] at h2; cases h2
  | some i =>
    rw [hi] at h2
    have h3 : i.size = 1 := by simpa using h2
    have hcells : v.cells = #[v] := by cases v <;> first | rfl | simp [Value.oneCell'] at hv
    have hadd : ad.add 0 = ad := by unfold Addr.add; split <;> simp_all
    simp [Instr.storeAt, Instr.sureAddr, storeVar, sizeOf, typeInfo, hi, h3, hcells, storeCells, run_store P W ad v _ hv, hadd, hc, hf, Result.andThen]
theorem gate_alloc {t : TypeId} (_ : o.op = .alloc t) (h : wpList P ops Q (o :: rest) a W) : wpList P ops Q (o :: rest) a W := h
theorem gate_box {t : TypeId} {x : Operand} (_ : o.op = .box t x) (h : wpList P ops Q (o :: rest) a W) : wpList P ops Q (o :: rest) a W := h
theorem gate_build {t : TypeId} {n : Nat} {ps : Array (Nat × Operand)} (_ : o.op = .buildSlice t n ps) (h : wpList P ops Q (o :: rest) a W) : wpList P ops Q (o :: rest) a W := h
theorem gate_load {t : TypeId} {x : Operand} (_ : o.op = .load t x) (h : wpList P ops Q (o :: rest) a W) : wpList P ops Q (o :: rest) a W := h
theorem gate_store {t : TypeId} {x y : Operand} (_ : o.op = .store t x y) (h : wpList P ops Q (o :: rest) a W) : wpList P ops Q (o :: rest) a W := h
theorem gate_lookup {t : TypeId} {x y : Operand} {b : Bool} (_ : o.op = .lookup t x y b) (h : wpList P ops Q (o :: rest) a W) : wpList P ops Q (o :: rest) a W := h
/-- A value, in a world that stays. -/
theorem value {v : Value} (hg : o.guard = none) (hr : (execOp a.eval o).run P W = .ok (.value v) W) (h : wpList P ops Q rest (a.put o.dst v) W) : wpList P ops Q (o :: rest) a W := by
  refine wpList_plain hg fun K hK => ?_
  unfold Oper.wp; rw [hr]; exact hK _ _ h
/-- A variable is laid (alloc, box): a new block. -/
theorem fresh {cs : Array Value} {T : TypeId} (hg : o.guard = none) (hr : (execOp a.eval o).run P W = .ok (.value (.pointer (some ⟨W.heap.size, 0, none⟩))) (W.alloc (.cells cs T (0, 0))))
    (h : ∀ g W', Blk W' g cs T → W.heap.size ≤ g → Below W.heap.size W W' → wpList P ops Q rest (a.put o.dst (.pointer (some ⟨g, 0, none⟩))) W') : wpList P ops Q (o :: rest) a W := by
  refine wpList_plain hg fun K hK => ?_
  unfold Oper.wp; rw [hr]; exact hK _ _ (h _ _ (alloc_out _ _ _) (Nat.le_refl _) (alloc_below _ _))
/-- A variable is laid, by what alloc comes to. -/
theorem freshAlloc {t : TypeId} {cs : Array Value} (hg : o.guard = none) (ho : o.op = .alloc t) (hr : ∀ W, (Instr.alloc t true (.tuple #[])).run P W = .ok (.pointer (some ⟨W.heap.size, 0, none⟩)) (W.alloc (.cells cs t (0, 0))))
    (h : ∀ g W', Blk W' g cs t → W.heap.size ≤ g → Below W.heap.size W W' → wpList P ops Q rest (a.put o.dst (.pointer (some ⟨g, 0, none⟩))) W') : wpList P ops Q (o :: rest) a W :=
  fresh hg (by simp [execOp, ho, hr W, Result.andThen]) h
/-- A slice is laid out. -/
theorem freshSlice {cs : Array Value} {T : TypeId} {n m : Nat} (hg : o.guard = none) (hr : (execOp a.eval o).run P W = .ok (.value (.slice (some ⟨W.heap.size, 0, none⟩) n m)) (W.alloc (.cells cs T (0, 0))))
    (h : ∀ g W', Blk W' g cs T → W.heap.size ≤ g → Below W.heap.size W W' → wpList P ops Q rest (a.put o.dst (.slice (some ⟨g, 0, none⟩) n m)) W') : wpList P ops Q (o :: rest) a W := by
  refine wpList_plain hg fun K hK => ?_
  unfold Oper.wp; rw [hr]; exact hK _ _ (h _ _ (alloc_out _ _ _) (Nat.le_refl _) (alloc_below _ _))
theorem madeCells_one (z : Value) (n : Nat) : madeCells #[z] n = Array.replicate n z := by
  apply Array.ext (by simp [madeCells])
  intro i h1 h2
  simp [madeCells, Nat.mod_one]
/-- A slice is made, of elements of one cell. -/
theorem make {t e : TypeId} {z : Value} {n b : Nat} {x y : Operand} {k k2 : IntKind} (hg : o.guard = none) (ho : o.op = .makeSlice t x y) (hx : a.eval x = .int k n) (hy : a.eval y = .int k2 n) (ht : P.underlying t = some (.slice e))
    (hi : (P.info? e).map (fun i => (i.size, i.bytes, i.zero)) = some (1, b, some z)) (hz : z.cells = #[z]) (hb : b * n ≤ 281474976710656) (hn : n ≤ 9223372036854775807)
    (h : ∀ g W', Blk W' g (Array.replicate n z) e → W.heap.size ≤ g → Below W.heap.size W W' → wpList P ops Q rest (a.put o.dst (.slice (some ⟨g, 0, none⟩) n n)) W') : wpList P ops Q (o :: rest) a W := by
  cases hi' : P.info? e with
  | none => rw [hi'] at hi; cases hi
  | some i =>
    rw [hi'] at hi
    simp only [Option.map_some, Option.some.injEq, Prod.mk.injEq] at hi
    obtain ⟨h1, h2, h3⟩ := hi
    have hb' : (i.bytes : Int) * (n : Int) ≤ 281474976710656 := by
      rw [h2]
      have h : ((b * n : Nat) : Int) ≤ 281474976710656 := by omega
      rwa [Int.natCast_mul] at h
    have hr := run_make (P := P) W t e i z ht hi' h3 k k2 n n (by omega) (Int.le_refl _) hb' (by omega)
    simp only [Int.toNat_natCast, h1, Nat.mul_one, hz, madeCells_one] at hr
    refine freshSlice (cs := Array.replicate n z) (T := e) hg ?_ h
    simp [execOp, ho, hx, hy, hr, Result.andThen]
/-- A cell is read. -/
theorem load {t : TypeId} {x : Operand} {g i : Nat} {cs : Array Value} {T : TypeId} {v : Value} (hB : Blk W g cs T) (hg : o.guard = none) (ho : o.op = .load t x) (hx : a.eval x = .pointer (some ⟨g, i, none⟩)) (ht : plainT P t = true) (hv : cs[i]? = some v)
    (h : wpList P ops Q rest (a.put o.dst v) W) : wpList P ops Q (o :: rest) a W := by
  refine value hg ?_ h
  have := run_load1 (P := P) ht ((hB.cell i).trans hv)
  simp [execOp, ho, hx, this, Result.andThen]
/-- A variable of several cells is read. -/
theorem loadAll {t : TypeId} {x : Operand} {g : Nat} {cs : Array Value} {T : TypeId} {d : TypeDesc} (hB : Blk W g cs T) (hg : o.guard = none) (ho : o.op = .load t x) (hx : a.eval x = .pointer (some ⟨g, 0, none⟩)) (hu : P.underlying t = some d)
    (hd : (match d with | .struct _ | .array _ _ => true | _ => false) = true) (hi : (P.info? t).map (·.size) = some cs.size) (h : wpList P ops Q rest (a.put o.dst (.agg cs)) W) : wpList P ops Q (o :: rest) a W :=
  wpList_load_row hg t x ho g hx T cs (0, 0) d hB.out hu hd hi h
/-- A cell is written. -/
theorem store {t : TypeId} {x y : Operand} {g i : Nat} {cs : Array Value} {T : TypeId} {v : Value} (hB : Blk W g cs T) (hg : o.guard = none) (ho : o.op = .store t x y) (hn : o.dst = none) (hx : a.eval x = .pointer (some ⟨g, i, none⟩)) (hy : a.eval y = v) (ht : plainT P t = true) (hv : v.oneCell' = true) (hi' : Nat.blt i cs.size = true)
    (h : ∀ W', Blk W' g (cs.setIfInBounds i v) T → Mod (One g) W W' → wpList P ops Q rest a W') : wpList P ops Q (o :: rest) a W := by
  have hi : i < cs.size := Nat.le_of_ble_eq_true hi'
  refine wpList_plain hg fun K hK => ?_
  have := run_store1 (P := P) ht hv ((hB.cell i).trans (Array.getElem?_eq_getElem hi)) (hB.frozen i)
  unfold Oper.wp
  simp [execOp, ho, hx, hy, this, Result.andThen]
  simp only [Oper.upon, hn, Act.put]
  exact hK _ _ (h _ (setCell_out _ _ _ _ _ _ hB) (setCell_mod _ _ _ _))
/-- A variable of several cells is written whole. -/
theorem storeAll {t : TypeId} {x y : Operand} {g : Nat} {cs vs : Array Value} {T : TypeId} (hB : Blk W g cs T) (hg : o.guard = none) (ho : o.op = .store t x y) (hn : o.dst = none) (hx : a.eval x = .pointer (some ⟨g, 0, none⟩)) (hy : a.eval y = .agg vs) (hi : (P.info? t).map (·.size) = some vs.size)
    (hs : cs.size = vs.size) (h1 : vs.toList.all (·.oneCell') = true) (h : ∀ W', Blk W' g vs T → Mod (One g) W W' → wpList P ops Q rest a W') : wpList P ops Q (o :: rest) a W := by
  refine wpList_plain hg fun K hK => ?_
  have hrun := run_storeVar_row (P := P) W g T t cs vs hB.out hi hs (by rw [← Array.all_toList]; exact h1)
  unfold Oper.wp
  simp [execOp, ho, hx, hy, Instr.storeAt, Instr.sureAddr, hrun, Result.andThen]
  simp only [Oper.upon, hn, Act.put]
  exact hK _ _ (h _ (setRow_out _ _ _ _ _ hB) (setRow_mod _ _ _))
end
end Go.Proofs.YthkodjkkcgdmfaaGreat.Step
end
section
namespace Go.Proofs.YthkodjkkcgdmfaaGreat.Hart
open Go Go.RowKit Go.Proofs.YthkodjkkcgdmfaaGreat.Step
set_option linter.unusedVariables false
set_option linter.unusedSimpArgs false
set_option maxRecDepth 100000
/-- A hart's fields. -/
structure Hrt where
  x : Nat → Int
  pc : Int
  user : Bool
  on : Bool
  spie : Bool
  spp : Bool
  sum : Bool
  mxr : Bool
  rsv : Bool
  stvec : Int
  sscr : Int
  sepc : Int
  scause : Int
  stval : Int
  sie : Int
  sip : Int
  satp : Int
  resv : Int
def hc (h : Hrt) : Array Value := #[.int .u64 (h.x 0), .int .u64 (h.x 1), .int .u64 (h.x 2), .int .u64 (h.x 3), .int .u64 (h.x 4), .int .u64 (h.x 5), .int .u64 (h.x 6), .int .u64 (h.x 7), .int .u64 (h.x 8), .int .u64 (h.x 9), .int .u64 (h.x 10), .int .u64 (h.x 11), .int .u64 (h.x 12), .int .u64 (h.x 13), .int .u64 (h.x 14), .int .u64 (h.x 15), .int .u64 (h.x 16), .int .u64 (h.x 17), .int .u64 (h.x 18), .int .u64 (h.x 19), .int .u64 (h.x 20), .int .u64 (h.x 21), .int .u64 (h.x 22), .int .u64 (h.x 23), .int .u64 (h.x 24), .int .u64 (h.x 25), .int .u64 (h.x 26), .int .u64 (h.x 27), .int .u64 (h.x 28), .int .u64 (h.x 29), .int .u64 (h.x 30), .int .u64 (h.x 31), .int .u64 h.pc, .bool h.user, .bool h.on, .bool h.spie, .bool h.spp, .bool h.sum, .bool h.mxr, .bool h.rsv, .int .u64 h.stvec, .int .u64 h.sscr, .int .u64 h.sepc, .int .u64 h.scause, .int .u64 h.stval, .int .u64 h.sie, .int .u64 h.sip, .int .u64 h.satp, .int .u64 h.resv]
def xup (x : Nat → Int) (i : Nat) (v : Int) : Nat → Int := fun k => if k = i then v else x k
theorem hc_all (h : Hrt) : (hc h).toList.all (·.oneCell') = true := rfl
theorem set_pc (h : Hrt) (v : Int) : (hc h).setIfInBounds 32 (.int .u64 v) = hc { h with pc := v } := rfl
theorem set_user (h : Hrt) (v : Bool) : (hc h).setIfInBounds 33 (.bool v) = hc { h with user := v } := rfl
theorem set_on (h : Hrt) (v : Bool) : (hc h).setIfInBounds 34 (.bool v) = hc { h with on := v } := rfl
theorem set_spie (h : Hrt) (v : Bool) : (hc h).setIfInBounds 35 (.bool v) = hc { h with spie := v } := rfl
theorem set_spp (h : Hrt) (v : Bool) : (hc h).setIfInBounds 36 (.bool v) = hc { h with spp := v } := rfl
theorem set_sum (h : Hrt) (v : Bool) : (hc h).setIfInBounds 37 (.bool v) = hc { h with sum := v } := rfl
theorem set_mxr (h : Hrt) (v : Bool) : (hc h).setIfInBounds 38 (.bool v) = hc { h with mxr := v } := rfl
theorem set_rsv (h : Hrt) (v : Bool) : (hc h).setIfInBounds 39 (.bool v) = hc { h with rsv := v } := rfl
theorem set_stvec (h : Hrt) (v : Int) : (hc h).setIfInBounds 40 (.int .u64 v) = hc { h with stvec := v } := rfl
theorem set_sscr (h : Hrt) (v : Int) : (hc h).setIfInBounds 41 (.int .u64 v) = hc { h with sscr := v } := rfl
theorem set_sepc (h : Hrt) (v : Int) : (hc h).setIfInBounds 42 (.int .u64 v) = hc { h with sepc := v } := rfl
theorem set_scause (h : Hrt) (v : Int) : (hc h).setIfInBounds 43 (.int .u64 v) = hc { h with scause := v } := rfl
theorem set_stval (h : Hrt) (v : Int) : (hc h).setIfInBounds 44 (.int .u64 v) = hc { h with stval := v } := rfl
theorem set_sie (h : Hrt) (v : Int) : (hc h).setIfInBounds 45 (.int .u64 v) = hc { h with sie := v } := rfl
theorem set_sip (h : Hrt) (v : Int) : (hc h).setIfInBounds 46 (.int .u64 v) = hc { h with sip := v } := rfl
theorem set_satp (h : Hrt) (v : Int) : (hc h).setIfInBounds 47 (.int .u64 v) = hc { h with satp := v } := rfl
theorem set_resv (h : Hrt) (v : Int) : (hc h).setIfInBounds 48 (.int .u64 v) = hc { h with resv := v } := rfl
theorem hc_x (h : Hrt) {i : Nat} (hi : i < 32) : (hc h)[i]? = some (.int .u64 (h.x i)) := by
  obtain h1 | h1 | h1 | h1 | h1 | h1 | h1 | h1 | h1 | h1 | h1 | h1 | h1 | h1 | h1 | h1 | h1 | h1 | h1 | h1 | h1 | h1 | h1 | h1 | h1 | h1 | h1 | h1 | h1 | h1 | h1 | h1 : i = 0 ∨ i = 1 ∨ i = 2 ∨ i = 3 ∨ i = 4 ∨ i = 5 ∨ i = 6 ∨ i = 7 ∨ i = 8 ∨ i = 9 ∨ i = 10 ∨ i = 11 ∨ i = 12 ∨ i = 13 ∨ i = 14 ∨ i = 15 ∨ i = 16 ∨ i = 17 ∨ i = 18 ∨ i = 19 ∨ i = 20 ∨ i = 21 ∨ i = 22 ∨ i = 23 ∨ i = 24 ∨ i = 25 ∨ i = 26 ∨ i = 27 ∨ i = 28 ∨ i = 29 ∨ i = 30 ∨ i = 31 := by omega
  all_goals (subst h1; rfl)
theorem set_x (h : Hrt) {i : Nat} (hi : i < 32) (v : Int) : (hc h).setIfInBounds i (.int .u64 v) = hc { h with x := xup h.x i v } := by
  obtain h1 | h1 | h1 | h1 | h1 | h1 | h1 | h1 | h1 | h1 | h1 | h1 | h1 | h1 | h1 | h1 | h1 | h1 | h1 | h1 | h1 | h1 | h1 | h1 | h1 | h1 | h1 | h1 | h1 | h1 | h1 | h1 : i = 0 ∨ i = 1 ∨ i = 2 ∨ i = 3 ∨ i = 4 ∨ i = 5 ∨ i = 6 ∨ i = 7 ∨ i = 8 ∨ i = 9 ∨ i = 10 ∨ i = 11 ∨ i = 12 ∨ i = 13 ∨ i = 14 ∨ i = 15 ∨ i = 16 ∨ i = 17 ∨ i = 18 ∨ i = 19 ∨ i = 20 ∨ i = 21 ∨ i = 22 ∨ i = 23 ∨ i = 24 ∨ i = 25 ∨ i = 26 ∨ i = 27 ∨ i = 28 ∨ i = 29 ∨ i = 30 ∨ i = 31 := by omega
  all_goals (subst h1; rfl)
theorem set_x0 (h : Hrt) (v : Int) : (hc h).setIfInBounds 0 (.int .u64 v) = hc { h with x := xup h.x 0 v } := set_x h (by decide) v
end Go.Proofs.YthkodjkkcgdmfaaGreat.Hart
end
section
namespace Go.Proofs.YthkodjkkcgdmfaaGreat.Hart
open Go Go.RowKit
set_option linter.unusedVariables false
set_option linter.unusedSimpArgs false
theorem big_bit {a i : Nat} (h : a < 18446744073709551616) (hi : ¬ i < 64) : a.testBit i = false :=
  Nat.testBit_lt_two_pow (Nat.lt_of_lt_of_le h (Nat.pow_le_pow_right (n := 2) (i := 64) (by decide) (by omega)))
theorem an1 (a : Nat) (h : a < 18446744073709551616) : a &&& 18446744073709551614 = a / 2 * 2 := by
  apply Nat.eq_of_testBit_eq
  intro i
  have e : (18446744073709551614 : Nat) = 2 ^ 64 - (1 + 1) := by decide
  rw [Nat.testBit_and, e, Nat.testBit_two_pow_sub_succ (by decide), show a / 2 * 2 = (a / 2 ^ 1) * 2 ^ 1 by simp, Nat.testBit_mul_two_pow, Nat.testBit_div_two_pow]
  by_cases h0 : i = 0
  · subst h0; simp
  · have h1 : 1 ≤ i := by omega
    have h2 : (1 : Nat).testBit i = false := by
      rw [show (1 : Nat) = 2 ^ 0 by decide, Nat.testBit_two_pow]
      exact decide_eq_false (by omega)
    rw [h2, show i - 1 + 1 = i by omega]
    by_cases hi : i < 64
    · simp [hi, h1]
    · simp [big_bit h hi]
theorem an2 (a : Nat) (h : a < 18446744073709551616) : a &&& 18446744073709551613 = a / 4 * 4 + a % 2 := by
  have h2 : (a / 4 * 4) ||| (a % 2) = a / 4 * 4 + a % 2 := by
    have := Nat.two_pow_add_eq_or_of_lt (i := 2) (b := a % 2) (by omega) (a / 4)
    rw [show 2 ^ 2 * (a / 4) = a / 4 * 4 by omega] at this
    exact this.symm
  rw [← h2]
  apply Nat.eq_of_testBit_eq
  intro i
  have e : (18446744073709551613 : Nat) = 2 ^ 64 - (2 + 1) := by decide
  rw [Nat.testBit_and, e, Nat.testBit_two_pow_sub_succ (by decide), Nat.testBit_or, show a / 4 * 4 = (a / 2 ^ 2) * 2 ^ 2 by simp, Nat.testBit_mul_two_pow, Nat.testBit_div_two_pow, show a % 2 = a % 2 ^ 1 by simp, Nat.testBit_mod_two_pow, show (2 : Nat).testBit i = (2 ^ 1).testBit i by rfl, Nat.testBit_two_pow]
  by_cases h0 : i = 0
  · subst h0; simp
  by_cases h1 : i = 1
  · subst h1; simp
  have h3 : 2 ≤ i := by omega
  rw [show i - 2 + 2 = i by omega]
  by_cases hi : i < 64
  · simp [hi, h3, show ¬ i < 1 by omega, show ¬ 1 = i by omega]
  · simp [big_bit h hi, show ¬ i < 1 by omega]
/-- Sixty-four bits. -/
structure U64 (v : Int) : Prop where mk :: (out : 0 ≤ v ∧ v < 18446744073709551616)
theorem u_an1 {v : Int} (h : U64 v) : bits .andNot .u64 v 1 = v / 2 * 2 := by
  obtain ⟨n, rfl⟩ := Int.eq_ofNat_of_zero_le h.out.1
  have := h.out
  have e := u64_andNot_nat n 1 (by omega) (by decide)
  rw [an1 n (by omega)] at e
  exact e.trans (by omega)
theorem u_an2 {v : Int} (h : U64 v) : bits .andNot .u64 v 2 = v / 4 * 4 + v % 2 := by
  obtain ⟨n, rfl⟩ := Int.eq_ofNat_of_zero_le h.out.1
  have := h.out
  have e := u64_andNot_nat n 2 (by omega) (by decide)
  rw [an2 n (by omega)] at e
  exact e.trans (by omega)
end Go.Proofs.YthkodjkkcgdmfaaGreat.Hart
end
section
namespace Go.Proofs.YthkodjkkcgdmfaaGreat.Enc
open Go Go.RowKit
set_option linter.unusedVariables false
set_option linter.unusedSimpArgs false
set_option maxRecDepth 100000
/-- The field [h:l] of a word, and a number of n bits with its sign. -/
def fd (a : Int) (h l : Nat) : Int := a / (2 ^ l : Nat) % (2 ^ (h - l + 1) : Nat)
def sx (n : Nat) (v : Int) : Int := if v < (2 ^ (n - 1) : Nat) then v else v - (2 ^ n : Nat)
structure W32 (a : Int) : Prop where mk :: (out : 0 ≤ a ∧ a < 4294967296)
theorem fd_bd (a : Int) (h l : Nat) : 0 ≤ fd a h l ∧ fd a h l < (2 ^ (h - l + 1) : Nat) := by
  have hp : (0 : Int) < (2 ^ (h - l + 1) : Nat) := by exact_mod_cast Nat.two_pow_pos _
  exact ⟨Int.emod_nonneg _ (by omega), Int.emod_lt_of_pos _ hp⟩
theorem ofInt_i64 (a : Nat) (ha : a < 9223372036854775808) : (BitVec.ofInt 64 (a : Int)).toNat = a := by
  rw [BitVec.ofInt_natCast, BitVec.toNat_ofNat]; exact Nat.mod_eq_of_lt (by omega)
theorem i64_and_nat (a b : Nat) (ha : a < 9223372036854775808) (hb : b < 9223372036854775808) : bits .and .i64 (a : Int) (b : Int) = ((a &&& b : Nat) : Int) := by
  have hx : a &&& b < 2 ^ 63 := Nat.and_lt_two_pow _ (by omega)
  show IntKind.i64.wrap ((BitVec.ofInt 64 (a : Int) &&& BitVec.ofInt 64 (b : Int)).toNat : Int) = _
  rw [BitVec.toNat_and, ofInt_i64 a ha, ofInt_i64 b hb, IntWalk.i64_in _ (by omega)]
theorem i64_or_nat (a b : Nat) (ha : a < 9223372036854775808) (hb : b < 9223372036854775808) : bits .or .i64 (a : Int) (b : Int) = ((a ||| b : Nat) : Int) := by
  have hx : a ||| b < 2 ^ 63 := Nat.or_lt_two_pow (by omega) (by omega)
  show IntKind.i64.wrap ((BitVec.ofInt 64 (a : Int) ||| BitVec.ofInt 64 (b : Int)).toNat : Int) = _
  rw [BitVec.toNat_or, ofInt_i64 a ha, ofInt_i64 b hb, IntWalk.i64_in _ (by omega)]
theorem i64_mask {x : Int} (s : Nat) (h : 0 ≤ x ∧ x < 9223372036854775808) (hs : s < 63) : bits .and .i64 x ((2 ^ s - 1 : Nat) : Int) = x % (2 ^ s : Nat) := by
  have hp : 2 ^ s < 2 ^ 63 := Nat.pow_lt_pow_right (by decide) hs
  obtain ⟨n, rfl⟩ := Int.eq_ofNat_of_zero_le h.1
  rw [i64_and_nat _ _ (by omega) (by omega), Nat.and_two_pow_sub_one_eq_mod]; rfl
theorem nat_or_add (s A B : Nat) (hd : A % 2 ^ s = 0) (hb : B < 2 ^ s) : A ||| B = A + B := by
  have hA : A = 2 ^ s * (A / 2 ^ s) := by have := Nat.div_add_mod A (2 ^ s); omega
  rw [hA]
  exact (Nat.two_pow_add_eq_or_of_lt hb _).symm
theorem i64_or {a b : Int} (s : Nat) (ha : 0 ≤ a ∧ a < 9223372036854775808) (hd : a % (2 ^ s : Nat) = 0) (hb : 0 ≤ b ∧ b < (2 ^ s : Nat)) (hb2 : b < 9223372036854775808) : bits .or .i64 a b = a + b := by
  obtain ⟨A, rfl⟩ := Int.eq_ofNat_of_zero_le ha.1
  obtain ⟨B, rfl⟩ := Int.eq_ofNat_of_zero_le hb.1
  rw [i64_or_nat _ _ (by omega) (by omega), nat_or_add s A B (by omega) (by omega)]; omega
theorem i64_orp {a b : Int} (s : Nat) (p : Int) (hp : p = (2 ^ s : Nat)) (ha : 0 ≤ a ∧ a < 9223372036854775808) (hd : a % p = 0) (hb : 0 ≤ b ∧ b < p) (hb2 : b < 9223372036854775808) : bits .or .i64 a b = a + b := by
  subst hp; exact i64_or s ha hd hb hb2
theorem u32_or_ {a b : Int} (s : Nat) (ha : 0 ≤ a ∧ a < 4294967296) (hd : a % (2 ^ s : Nat) = 0) (hb : 0 ≤ b ∧ b < (2 ^ s : Nat)) (hb2 : b < 4294967296) : bits .or .u32 a b = a + b := by
  obtain ⟨A, rfl⟩ := Int.eq_ofNat_of_zero_le ha.1
  obtain ⟨B, rfl⟩ := Int.eq_ofNat_of_zero_le hb.1
  rw [u32_or_nat _ _ (by omega) (by omega), nat_or_add s A B (by omega) (by omega)]; omega
theorem u32_orp {a b : Int} (s : Nat) (p : Int) (hp : p = (2 ^ s : Nat)) (ha : 0 ≤ a ∧ a < 4294967296) (hd : a % p = 0) (hb : 0 ≤ b ∧ b < p) (hb2 : b < 4294967296) : bits .or .u32 a b = a + b := by
  subst hp; exact u32_or_ s ha hd hb hb2
theorem pow_nat (k : Nat) : ((2 : Int) ^ k) = ((2 ^ k : Nat) : Int) := (Int.natCast_pow 2 k).symm
theorem mask_v (q : Int) (n : Nat) (hq : 0 ≤ q ∧ q < 4294967296) (hn : n ≤ 32) : bits .and .i64 (wrap64 q) (wrap64 (wrap64 (2 ^ n) - 1)) = q % (2 ^ n : Nat) := by
  have hp : 2 ^ n ≤ 4294967296 := Nat.pow_le_pow_right (n := 2) (j := 32) (by decide) hn
  have hp0 := Nat.two_pow_pos n
  have w1 : wrap64 q = q := by unfold wrap64; omega
  have w2 : wrap64 ((2 ^ n : Nat) : Int) = ((2 ^ n : Nat) : Int) := by generalize 2 ^ n = p at *; unfold wrap64; omega
  have w3 : wrap64 (((2 ^ n : Nat) : Int) - 1) = ((2 ^ n - 1 : Nat) : Int) := by generalize 2 ^ n = p at *; unfold wrap64; omega
  rw [pow_nat, w1, w2, w3]
  exact i64_mask n ⟨hq.1, by omega⟩ (by omega)
theorem bits_any (a z1 z2 : Int) (h l : Nat) (ha : W32 a) (hz1 : z1 = h) (hz2 : z2 = l) (hh : h ≤ 31) (hl : l ≤ h) (w : World) :
    Calls Tryz.prog 159 #[.int .u32 a, .int .i64 z1, .int .i64 z2] w fun e w' => e = .returned (.int .i64 (fd a h l)) ∧ ∃ k, w' = w.drewN k := by
  subst hz1; subst hz2
  have hv : bits .and .i64 (wrap64 (a / 2 ^ l)) (wrap64 (wrap64 (2 ^ (h - l + 1)) - 1)) = fd a h l := by
    rw [mask_v (a / 2 ^ l) (h - l + 1) ⟨Int.ediv_nonneg ha.out.1 (Int.le_of_lt (Int.pow_pos (by decide))), Int.lt_of_le_of_lt (Int.ediv_le_self _ ha.out.1) ha.out.2⟩ (by omega), pow_nat]; rfl
  go_enter Tryz.func159, Tryz.ntmps159
  go_wp2
  go_quiet (fail)
  go_wp2
  go_ret
  exact ⟨rfl, _, rfl⟩
theorem signed_v (v : Int) (n : Nat) (h1 : 1 ≤ n) (hn : n ≤ 32) (hv : 0 ≤ v ∧ v < (2 ^ n : Nat)) : wrap64 (v * 2 ^ (64 - n)) / 2 ^ (64 - n) = sx n v := by
  obtain ⟨m, rfl⟩ : ∃ m, n = m + 1 := ⟨n - 1, by omega⟩
  have e0 : ((2 : Int) ^ (64 - (m + 1))) = ((2 ^ (63 - m) : Nat) : Int) := by rw [show 64 - (m + 1) = 63 - m by omega]; exact pow_nat _
  have hm : 2 ^ m * 2 ^ (63 - m) = 9223372036854775808 := by rw [← Nat.pow_add, show m + (63 - m) = 63 by omega]
  have hs : 2 ^ (m + 1) = 2 * 2 ^ m := by rw [Nat.pow_succ]; omega
  have hm' : ((2 ^ m : Nat) : Int) * ((2 ^ (63 - m) : Nat) : Int) = 9223372036854775808 := (Int.natCast_mul _ _).symm.trans (congrArg Int.ofNat hm)
  have hp0 := Nat.two_pow_pos (63 - m)
  rw [e0]
  unfold sx
  simp only [Nat.add_sub_cancel]
  rw [hs] at hv ⊢
  generalize (2 ^ m : Nat) = p at *
  generalize (2 ^ (63 - m) : Nat) = q at *
  have hq : (0 : Int) < (q : Int) := by omega
  by_cases h : v < (p : Int)
  · rw [if_pos h]
    have a1 : 0 ≤ v * q := Int.mul_nonneg hv.1 (by omega)
    have a2 : v * q < 9223372036854775808 := by rw [← hm']; exact Int.mul_lt_mul_of_pos_right h hq
    rw [show wrap64 (v * q) = v * q by unfold wrap64; omega]
    exact Int.mul_ediv_cancel _ (by omega)
  · rw [if_neg h]
    have e3 : (v - ((2 * p : Nat) : Int)) * q = v * q - 18446744073709551616 := by
      rw [Int.sub_mul]
      have : ((2 * p : Nat) : Int) * (q : Int) = 2 * ((p : Int) * q) := by rw [Int.natCast_mul]; exact Int.mul_assoc 2 _ _
      rw [this, hm']
      rfl
    have a1 : 9223372036854775808 ≤ v * q := by rw [← hm']; exact Int.mul_le_mul_of_nonneg_right (by omega) (by omega)
    have a2 : (v - ((2 * p : Nat) : Int)) * q < 0 := Int.mul_neg_of_neg_of_pos (by omega) hq
    rw [show wrap64 (v * q) = (v - ((2 * p : Nat) : Int)) * q by unfold wrap64; omega]
    exact Int.mul_ediv_cancel _ (by omega)
theorem signed_any (v z : Int) (n : Nat) (hz : z = n) (h1 : 1 ≤ n) (hn : n ≤ 32) (hv : 0 ≤ v ∧ v < (2 ^ n : Nat)) (w : World) :
    Calls Tryz.prog 209 #[.int .i64 v, .int .i64 z] w fun e w' => e = .returned (.int .i64 (sx n v)) ∧ w = w' := by
  subst hz
  have hs := signed_v v n h1 hn hv
  go_enter Tryz.func209, Tryz.ntmps209
  go_wp2
  go_ret
  exact ⟨rfl, rfl⟩
theorem op_any (a : Int) (ha : W32 a) (w : World) : Calls Tryz.prog 136 #[.int .u32 a] w fun e w' => e = .returned (.int .i64 (fd a 6 0)) ∧ ∃ k, w' = w.drewN k := by
  have T := bits_any a 6 0 6 0 ha rfl rfl (by decide) (by decide)
  go_enter Tryz.func136, Tryz.ntmps136
  go_wp2_with (go_at_call 159; refine (T _).mono ?_; rintro e w' ⟨rfl, k, rfl⟩)
  go_ret
  exact ⟨rfl, _, rfl⟩
theorem rd_any (a : Int) (ha : W32 a) (w : World) : Calls Tryz.prog 141 #[.int .u32 a] w fun e w' => e = .returned (.int .i64 (fd a 11 7)) ∧ ∃ k, w' = w.drewN k := by
  have T := bits_any a 11 7 11 7 ha rfl rfl (by decide) (by decide)
  go_enter Tryz.func141, Tryz.ntmps141
  go_wp2_with (go_at_call 159; refine (T _).mono ?_; rintro e w' ⟨rfl, k, rfl⟩)
  go_ret
  exact ⟨rfl, _, rfl⟩
theorem f3_any (a : Int) (ha : W32 a) (w : World) : Calls Tryz.prog 137 #[.int .u32 a] w fun e w' => e = .returned (.int .i64 (fd a 14 12)) ∧ ∃ k, w' = w.drewN k := by
  have T := bits_any a 14 12 14 12 ha rfl rfl (by decide) (by decide)
  go_enter Tryz.func137, Tryz.ntmps137
  go_wp2_with (go_at_call 159; refine (T _).mono ?_; rintro e w' ⟨rfl, k, rfl⟩)
  go_ret
  exact ⟨rfl, _, rfl⟩
theorem rs1_any (a : Int) (ha : W32 a) (w : World) : Calls Tryz.prog 142 #[.int .u32 a] w fun e w' => e = .returned (.int .i64 (fd a 19 15)) ∧ ∃ k, w' = w.drewN k := by
  have T := bits_any a 19 15 19 15 ha rfl rfl (by decide) (by decide)
  go_enter Tryz.func142, Tryz.ntmps142
  go_wp2_with (go_at_call 159; refine (T _).mono ?_; rintro e w' ⟨rfl, k, rfl⟩)
  go_ret
  exact ⟨rfl, _, rfl⟩
theorem rs2_any (a : Int) (ha : W32 a) (w : World) : Calls Tryz.prog 143 #[.int .u32 a] w fun e w' => e = .returned (.int .i64 (fd a 24 20)) ∧ ∃ k, w' = w.drewN k := by
  have T := bits_any a 24 20 24 20 ha rfl rfl (by decide) (by decide)
  go_enter Tryz.func143, Tryz.ntmps143
  go_wp2_with (go_at_call 159; refine (T _).mono ?_; rintro e w' ⟨rfl, k, rfl⟩)
  go_ret
  exact ⟨rfl, _, rfl⟩
theorem f7_any (a : Int) (ha : W32 a) (w : World) : Calls Tryz.prog 160 #[.int .u32 a] w fun e w' => e = .returned (.int .i64 (fd a 31 25)) ∧ ∃ k, w' = w.drewN k := by
  have T := bits_any a 31 25 31 25 ha rfl rfl (by decide) (by decide)
  go_enter Tryz.func160, Tryz.ntmps160
  go_wp2_with (go_at_call 159; refine (T _).mono ?_; rintro e w' ⟨rfl, k, rfl⟩)
  go_ret
  exact ⟨rfl, _, rfl⟩
def rawI (a : Int) : Int := fd a 31 20
def immI (a : Int) : Int := sx 12 (rawI a)
theorem rawI_bd (a : Int) : 0 ≤ rawI a ∧ rawI a < (2 ^ 12 : Nat) := by
  unfold rawI
  have b0 := fd_bd a 31 20
  simp only [Nat.reduceSub, Nat.reduceAdd, Nat.reducePow] at *
  omega
def rawS (a : Int) : Int := fd a 31 25 * 32 + fd a 11 7
def immS (a : Int) : Int := sx 12 (rawS a)
theorem rawS_bd (a : Int) : 0 ≤ rawS a ∧ rawS a < (2 ^ 12 : Nat) := by
  unfold rawS
  have b0 := fd_bd a 31 25
  have b1 := fd_bd a 11 7
  simp only [Nat.reduceSub, Nat.reduceAdd, Nat.reducePow] at *
  omega
def rawU (a : Int) : Int := fd a 31 12 * 4096
def immU (a : Int) : Int := sx 32 (rawU a)
def rawB (a : Int) : Int := fd a 31 31 * 4096 + fd a 7 7 * 2048 + fd a 30 25 * 32 + fd a 11 8 * 2
def immB (a : Int) : Int := sx 13 (rawB a)
def rawJ (a : Int) : Int := fd a 31 31 * 1048576 + fd a 19 12 * 4096 + fd a 20 20 * 2048 + fd a 30 21 * 2
def immJ (a : Int) : Int := sx 21 (rawJ a)
set_option maxHeartbeats 1000000 in
theorem i_any (a : Int) (ha : W32 a) (w : World) : Calls Tryz.prog 164 #[.int .u32 a] w fun e w' => e = .returned (.int .i64 (immI a)) ∧ ∃ k, w' = w.drewN k := by
  have T0 := bits_any a 31 20 31 20 ha rfl rfl (by decide) (by decide)
  have b0 := fd_bd a 31 20
  have rb := rawI_bd a
  have S := signed_any (rawI a) 12 12 rfl (by decide) (by decide) rb
  have hr : rawI a = rawI a := rfl
  conv at hr => rhs; unfold rawI
  simp only [Nat.reduceSub, Nat.reduceAdd, Nat.reducePow] at b0 rb
  unfold immI
  generalize rawI a = r at *
  generalize hx0 : fd a 31 20 = x0 at T0 b0
  simp only [hx0] at hr
  clear hx0

  have hr2 := hr.symm
  clear hr
  go_enter Tryz.func164, Tryz.ntmps164
  go_wp2_with (first | (go_at_call 159; (with_reducible refine (T0 _).mono ?_); rintro e w' ⟨rfl, k, rfl⟩) | (go_at_call 209; (with_reducible refine (S _).mono ?_); rintro e w' ⟨rfl, rfl⟩))
  repeat (go_quiet (first | (go_at_call 159; (with_reducible exact Calls.quiet_of (T0 _))) | (go_at_call 209; exact Calls.quiet_of_same (S _))); try (go_wp2_with (fail)))
  go_ret
  exact ⟨rfl, _, rfl⟩
set_option maxHeartbeats 1000000 in
theorem s_any (a : Int) (ha : W32 a) (w : World) : Calls Tryz.prog 166 #[.int .u32 a] w fun e w' => e = .returned (.int .i64 (immS a)) ∧ ∃ k, w' = w.drewN k := by
  have T0 := f7_any a ha
  have T1 := rd_any a ha
  have b0 := fd_bd a 31 25
  have b1 := fd_bd a 11 7
  have rb := rawS_bd a
  have S := signed_any (rawS a) 12 12 rfl (by decide) (by decide) rb
  have hr : rawS a = rawS a := rfl
  conv at hr => rhs; unfold rawS
  simp only [Nat.reduceSub, Nat.reduceAdd, Nat.reducePow] at b0 b1 rb
  unfold immS
  generalize rawS a = r at *
  generalize hx0 : fd a 31 25 = x0 at T0 b0
  generalize hx1 : fd a 11 7 = x1 at T1 b1
  simp only [hx0, hx1] at hr
  clear hx0 hx1
  have o1 : bits .or .i64 (x0 * 32) (x1) = x0 * 32 + x1 := i64_orp 5 32 rfl ⟨by omega, by omega⟩ (by omega) ⟨by omega, by omega⟩ (by omega)
  have hr2 := hr.symm
  clear hr
  go_enter Tryz.func166, Tryz.ntmps166
  go_wp2_with (first | (go_at_call 160; (with_reducible refine (T0 _).mono ?_); rintro e w' ⟨rfl, k, rfl⟩) | (go_at_call 141; (with_reducible refine (T1 _).mono ?_); rintro e w' ⟨rfl, k, rfl⟩) | (go_at_call 209; (with_reducible refine (S _).mono ?_); rintro e w' ⟨rfl, rfl⟩))
  repeat (go_quiet (first | (go_at_call 160; (with_reducible exact Calls.quiet_of (T0 _))) | (go_at_call 141; (with_reducible exact Calls.quiet_of (T1 _))) | (go_at_call 209; exact Calls.quiet_of_same (S _))); try (go_wp2_with (fail)))
  go_ret
  exact ⟨rfl, _, rfl⟩
theorem none_any (a : Int) (w : World) : Calls Tryz.prog 167 #[.int .u32 a] w fun e w' => e = .returned (.int .i64 0) ∧ ∃ k, w' = w.drewN k := by
  go_enter Tryz.func167, Tryz.ntmps167
  go_wp2
  go_ret
  exact ⟨rfl, 0, rfl⟩
theorem rbits_v (q : Int) (n : Nat) (hq : 0 ≤ q ∧ q < 4294967296) (hn : n ≤ 32) : Int.tmod (wrap64 q) (wrap64 (2 ^ n)) = q % (2 ^ n : Nat) := by
  have hp : 2 ^ n ≤ 4294967296 := Nat.pow_le_pow_right (n := 2) (j := 32) (by decide) hn
  have hp0 := Nat.two_pow_pos n
  have w1 : wrap64 q = q := by unfold wrap64; omega
  have w2 : wrap64 ((2 ^ n : Nat) : Int) = ((2 ^ n : Nat) : Int) := by generalize 2 ^ n = p at *; unfold wrap64; omega
  rw [pow_nat, w1, w2]
  exact Int.tmod_eq_emod_of_nonneg hq.1
theorem wrap_pow (n : Nat) (hn : n ≤ 32) : wrap64 ((2 ^ n : Nat) : Int) = ((2 ^ n : Nat) : Int) := by
  have hp : 2 ^ n ≤ 4294967296 := Nat.pow_le_pow_right (n := 2) (j := 32) (by decide) hn
  generalize 2 ^ n = p at *
  unfold wrap64; omega
theorem rbits_any (a z1 z2 : Int) (h l : Nat) (ha : W32 a) (hz1 : z1 = h) (hz2 : z2 = l) (hh : h ≤ 31) (hl : l ≤ h) (w : World) :
    Calls Tryz.prog 70 #[.int .u32 a, .int .i64 z1, .int .i64 z2] w fun e w' => e = .returned (.int .i64 (fd a h l)) ∧ ∃ k, w' = w.drewN k := by
  subst hz1; subst hz2
  have hv : (wrap64 (a / 2 ^ l)).tmod (wrap64 (2 ^ (h - l + 1))) = fd a h l := by
    rw [rbits_v (a / 2 ^ l) (h - l + 1) ⟨Int.ediv_nonneg ha.out.1 (Int.le_of_lt (Int.pow_pos (by decide))), Int.lt_of_le_of_lt (Int.ediv_le_self _ ha.out.1) ha.out.2⟩ (by omega), pow_nat]; rfl
  have hne : ¬ wrap64 (2 ^ (h - l + 1)) = 0 := by
    rw [pow_nat, wrap_pow _ (by omega)]
    have := Nat.two_pow_pos (h - l + 1)
    omega
  go_enter Tryz.func70, Tryz.ntmps70
  go_wp2
  go_ret
  exact ⟨rfl, 0, rfl⟩
theorem rsigned_any (v z : Int) (n : Nat) (hz : z = n) (h1 : 1 ≤ n) (hn : n ≤ 32) (hv : 0 ≤ v ∧ v < (2 ^ n : Nat)) (w : World) :
    Calls Tryz.prog 112 #[.int .i64 v, .int .i64 z] w fun e w' => e = .returned (.int .i64 (sx n v)) ∧ w = w' := by
  subst hz
  have hp : 2 ^ n ≤ 4294967296 := Nat.pow_le_pow_right (n := 2) (j := 32) (by decide) hn
  have e1 : (wrap64 (2 ^ n)) = ((2 ^ n : Nat) : Int) := by rw [pow_nat, wrap_pow _ hn]
  have e2 : (wrap64 (2 ^ (n - 1))) = ((2 ^ (n - 1) : Nat) : Int) := by rw [pow_nat, wrap_pow _ (by omega)]
  unfold sx
  generalize hx : wrap64 (2 ^ n) = x at e1
  generalize hy : wrap64 (2 ^ (n - 1)) = y at e2
  rw [← e1] at hv
  rw [← e1, ← e2]
  have bx : x ≤ 4294967296 := by omega
  clear e1 e2 hp
  by_cases h : v < y
  · rw [if_pos h]
    go_enter Tryz.func112, Tryz.ntmps112
    go_wp2
    go_ret
    exact ⟨rfl, rfl⟩
  · rw [if_neg h]
    have e3 : wrap64 (v - x) = v - x := by unfold wrap64; omega
    go_enter Tryz.func112, Tryz.ntmps112
    go_wp2
    go_ret
    exact ⟨rfl, rfl⟩
set_option maxHeartbeats 1000000 in
theorem ri_any (a : Int) (ha : W32 a) (w : World) : Calls Tryz.prog 73 #[.int .u32 a] w fun e w' => e = .returned (.int .i64 (immI a)) ∧ ∃ k, w' = w.drewN k := by
  have T0 := rbits_any a 31 20 31 20 ha rfl rfl (by decide) (by decide)
  have b0 := fd_bd a 31 20
  have rb := rawI_bd a
  have S := rsigned_any (rawI a) 12 12 rfl (by decide) (by decide) rb
  have hr : rawI a = rawI a := rfl
  conv at hr => rhs; unfold rawI
  simp only [Nat.reduceSub, Nat.reduceAdd, Nat.reducePow] at b0 rb
  unfold immI
  generalize rawI a = r at *
  generalize hx0 : fd a 31 20 = x0 at T0 b0
  simp only [hx0] at hr
  clear hx0
  have hr2 := hr.symm
  clear hr
  go_enter Tryz.func73, Tryz.ntmps73
  go_wp2_with (first | (go_at_call 70; (with_reducible refine (T0 _).mono ?_); rintro e w' ⟨rfl, k, rfl⟩) | (go_at_call 112; (with_reducible refine (S _).mono ?_); rintro e w' ⟨rfl, rfl⟩))
  repeat (go_quiet (first | (go_at_call 70; (with_reducible exact Calls.quiet_of (T0 _))) | (go_at_call 112; (with_reducible exact Calls.quiet_of_same (S _)))); try (go_wp2_with (fail)))
  go_ret
  exact ⟨rfl, _, rfl⟩
set_option maxHeartbeats 1000000 in
theorem rs_any (a : Int) (ha : W32 a) (w : World) : Calls Tryz.prog 75 #[.int .u32 a] w fun e w' => e = .returned (.int .i64 (immS a)) ∧ ∃ k, w' = w.drewN k := by
  have T0 := rbits_any a 31 25 31 25 ha rfl rfl (by decide) (by decide)
  have T1 := rbits_any a 11 7 11 7 ha rfl rfl (by decide) (by decide)
  have b0 := fd_bd a 31 25
  have b1 := fd_bd a 11 7
  have rb := rawS_bd a
  have S := rsigned_any (rawS a) 12 12 rfl (by decide) (by decide) rb
  have hr : rawS a = rawS a := rfl
  conv at hr => rhs; unfold rawS
  simp only [Nat.reduceSub, Nat.reduceAdd, Nat.reducePow] at b0 b1 rb
  unfold immS
  generalize rawS a = r at *
  generalize hx0 : fd a 31 25 = x0 at T0 b0
  generalize hx1 : fd a 11 7 = x1 at T1 b1
  simp only [hx0, hx1] at hr
  clear hx0 hx1
  have hr2 := hr.symm
  clear hr
  go_enter Tryz.func75, Tryz.ntmps75
  go_wp2_with (first | (go_at_call 70; (with_reducible refine (T0 _).mono ?_); rintro e w' ⟨rfl, k, rfl⟩) | (go_at_call 70; (with_reducible refine (T1 _).mono ?_); rintro e w' ⟨rfl, k, rfl⟩) | (go_at_call 112; (with_reducible refine (S _).mono ?_); rintro e w' ⟨rfl, rfl⟩))
  repeat (go_quiet (first | (go_at_call 70; (with_reducible exact Calls.quiet_of (T0 _))) | (go_at_call 70; (with_reducible exact Calls.quiet_of (T1 _))) | (go_at_call 112; (with_reducible exact Calls.quiet_of_same (S _)))); try (go_wp2_with (fail)))
  go_ret
  exact ⟨rfl, _, rfl⟩
end Go.Proofs.YthkodjkkcgdmfaaGreat.Enc
end
section
namespace Go.Proofs.YthkodjkkcgdmfaaGreat.Enc
open Go Go.RowKit Go.Proofs.YthkodjkkcgdmfaaGreat.Step
set_option linter.unusedVariables false
set_option linter.unusedSimpArgs false
set_option maxRecDepth 100000
/-- The element of a list; 0: there is none. -/
def pk (L : List Int) (x : Int) : Int := if x < 0 then 0 else L.getD x.toNat 0
theorem below_drawn {w w' : World} (h : ∃ k, w' = w.drewN k) : Below w.heap.size w w' := by
  obtain ⟨k, rfl⟩ := h
  exact ⟨rfl, rfl, rfl, Nat.le_refl _, fun _ _ => rfl⟩
theorem calls_below {P : Program} {f : FuncId} {args : Array Value} {w : World} {r : Ending} (h : Calls P f args w fun e w' => e = r ∧ ∃ k, w' = w.drewN k) : Calls P f args w fun e w' => e = r ∧ Below w.heap.size w w' := h.mono fun e w' k => ⟨k.1, below_drawn k.2⟩
theorem calls_same {P : Program} {f : FuncId} {args : Array Value} {w : World} {r : Ending} (h : Calls P f args w fun e w' => e = r ∧ w = w') : Calls P f args w fun e w' => e = r ∧ Below w.heap.size w w' := h.mono fun e w' k => ⟨k.1, by rw [← k.2]; exact Below.refl _ _⟩
def ints (L : List Int) : Array Value := (L.map fun x => Value.int .i64 x).toArray
theorem ints_at (L : List Int) (k : Nat) (h : k < L.length) : (ints L)[k]? = some (.int .i64 (L.getD k 0)) := by
  simp [ints, List.getElem?_map, List.getD, List.getElem?_eq_getElem h]
theorem pick_any {W : World} {g n : Nat} {cs : Array Value} {T : TypeId} (hb : Blk W g cs T) (L : List Int) (hcs : cs = ints L) (hn : n = L.length) (hl : L.length ≤ 1000) (x : Int) (hx : -9223372036854775808 ≤ x ∧ x < 9223372036854775808) :
    Calls Tryz.prog 161 #[.slice (some ⟨g, 0, none⟩) n n, .int .i64 x] W fun e w' => e = .returned (.int .i64 (pk L x)) ∧ Below W.heap.size W w' := by
  subst hn hcs
  unfold pk
  by_cases h0 : x < 0
  · rw [if_pos h0]
    go_enter Tryz.func161, Tryz.ntmps161
    go_wp2
    go_ret
    exact ⟨rfl, Below.refl _ _⟩
  · rw [if_neg h0]
    obtain ⟨k, rfl⟩ := Int.eq_ofNat_of_zero_le (show 0 ≤ x by omega)
    rw [Int.toNat_natCast]
    by_cases h1 : k < L.length
    · have hc : W.cell? ⟨g, k, none⟩ = some (.int .i64 (L.getD k 0)) := (hb.cell k).trans (ints_at L k h1)
      generalize L.getD k 0 = v at hc ⊢
      go_enter Tryz.func161, Tryz.ntmps161
      go_wp2
      go_ret
      exact ⟨rfl, Below.refl _ _⟩
    · have hz : L.getD k 0 = 0 := by simp [List.getD, List.getElem?_eq_none (show L.length ≤ k by omega)]
      rw [hz]
      go_enter Tryz.func161, Tryz.ntmps161
      go_wp2
      go_ret
      exact ⟨rfl, Below.refl _ _⟩
theorem rpick_any {W : World} {g n : Nat} {cs : Array Value} {T : TypeId} (hb : Blk W g cs T) (L : List Int) (hcs : cs = ints L) (hn : n = L.length) (hl : L.length ≤ 1000) (x : Int) (hx : -9223372036854775808 ≤ x ∧ x < 9223372036854775808) :
    Calls Tryz.prog 68 #[.slice (some ⟨g, 0, none⟩) n n, .int .i64 x] W fun e w' => e = .returned (.int .i64 (pk L x)) ∧ Below W.heap.size W w' := by
  subst hn hcs
  unfold pk
  by_cases h0 : x < 0
  · rw [if_pos h0]
    go_enter Tryz.func68, Tryz.ntmps68
    go_wp2
    go_ret
    exact ⟨rfl, Below.refl _ _⟩
  · rw [if_neg h0]
    obtain ⟨k, rfl⟩ := Int.eq_ofNat_of_zero_le (show 0 ≤ x by omega)
    rw [Int.toNat_natCast]
    by_cases h1 : k < L.length
    · have hc : W.cell? ⟨g, k, none⟩ = some (.int .i64 (L.getD k 0)) := (hb.cell k).trans (ints_at L k h1)
      generalize L.getD k 0 = v at hc ⊢
      go_enter Tryz.func68, Tryz.ntmps68
      go_wp2
      go_ret
      exact ⟨rfl, Below.refl _ _⟩
    · have hz : L.getD k 0 = 0 := by simp [List.getD, List.getElem?_eq_none (show L.length ≤ k by omega)]
      rw [hz]
      go_enter Tryz.func68, Tryz.ntmps68
      go_wp2
      go_ret
      exact ⟨rfl, Below.refl _ _⟩
end Go.Proofs.YthkodjkkcgdmfaaGreat.Enc
end
section
namespace Go.Proofs.YthkodjkkcgdmfaaGreat.Enc
open Go Go.RowKit Go.Proofs.YthkodjkkcgdmfaaGreat.Step
set_option linter.unusedVariables false
set_option linter.unusedSimpArgs false
set_option maxRecDepth 100000
/-- One instruction of the call's own, at g; nothing older was turned. -/
structure S1 (W w : World) (T : TypeId) (g : Nat) (c : Array Value) : Prop where
  below : Below W.heap.size W w
  one : Blk w g c T
  lo : W.heap.size ≤ g
/-- Two of them. -/
structure S2 (W w : World) (T : TypeId) (g r : Nat) (c d : Array Value) : Prop where
  below : Below W.heap.size W w
  one : Blk w g c T
  two : Blk w r d T
  ne : g ≠ r
  lo : W.heap.size ≤ g
  lo2 : W.heap.size ≤ r
section
variable {W w w' : World} {T : TypeId} {g r : Nat} {c c' d d' : Array Value}
theorem S1.made (b : Blk w g c T) (hg : W.heap.size ≤ g) (hb : Below W.heap.size W w) : S1 W w T g c := ⟨hb, b, hg⟩
theorem S1.call (h : S1 W w T g c) (hb : Below w.heap.size w w') : S1 W w' T g c := ⟨below_below h.below hb, h.one.below hb, h.lo⟩
theorem S1.set1 (h : S1 W w T g c) (nb : Blk w' g c' T) (m : Mod (One g) w w') : S1 W w' T g c' := ⟨below_one h.below m h.lo, nb, h.lo⟩
theorem S1.more (h : S1 W w T g c) (b : Blk w' r d T) (hr : w.heap.size ≤ r) (hb : Below w.heap.size w w') : S2 W w' T g r c d :=
  ⟨below_below h.below hb, h.one.below hb, b, fun e => by have := h.one.lt; omega, h.lo, by have := h.below.size; omega⟩
theorem S2.call (h : S2 W w T g r c d) (hb : Below w.heap.size w w') : S2 W w' T g r c d := ⟨below_below h.below hb, h.one.below hb, h.two.below hb, h.ne, h.lo, h.lo2⟩
theorem S2.set1 (h : S2 W w T g r c d) (nb : Blk w' g c' T) (m : Mod (One g) w w') : S2 W w' T g r c' d := ⟨below_one h.below m h.lo, nb, h.two.one m h.ne.symm, h.ne, h.lo, h.lo2⟩
theorem S2.set2 (h : S2 W w T g r c d) (nb : Blk w' r d' T) (m : Mod (One r) w w') : S2 W w' T g r c d' := ⟨below_one h.below m h.lo2, h.one.one m h.ne, nb, h.ne, h.lo, h.lo2⟩
end
theorem alloc_agg {t : TypeId} {cs : Array Value} (h : (Tryz.prog.info? t).bind (·.zero) = some (.agg cs)) (W : World) : (Instr.alloc t true (.tuple #[])).run Tryz.prog W = .ok (.pointer (some ⟨W.heap.size, 0, none⟩)) (W.alloc (.cells cs t (0, 0))) := by
  cases hi : Tryz.prog.info? t with
  | none => rw [hi] at h; cases h
  | some i =>
    rw [hi] at h
    have hz : i.zero = some (.agg cs) := h
    simp [Instr.alloc, zeroValue, typeInfo, hi, hz, newVar, newRow, newObj, Result.andThen, Value.cells, go_sem]
    rfl
theorem zero_inst : (Tryz.prog.info? 44).bind (·.zero) = some (.agg #[.int .i64 0, .int .i64 0, .int .i64 0, .int .i64 0, .int .i64 0, .int .i64 0, .int .i64 0, .bool false]) := by kernel_rfl
theorem size_inst : (Tryz.prog.info? 44).map (·.size) = some 8 := by kernel_rfl
theorem pl_int : Step.plainT Tryz.prog 3 = true := by kernel_rfl
theorem pl_bool : Step.plainT Tryz.prog 4 = true := by kernel_rfl
theorem results_row_tmp {P : Program} {fn : Func} {p u : Tmp} {ty : TypeId} (h : fn.results = #[.cell p ty, .tmp u]) (tmps : Array Value) (w : World) (g : Nat) (t : TypeId) (cs : Array Value) (d : TypeDesc)
    (hp : tmps.getD p undef = .pointer (some ⟨g, 0, none⟩)) (hg : Blk w g cs t) (hu : P.underlying ty = some d) (hd : (match d with | .struct _ | .array _ _ => true | _ => false) = true) (hi : (P.info? ty).map (·.size) = some cs.size) :
    (results fn tmps).run P w = .ok (.tuple #[.agg cs, tmps.getD u undef]) w := by
  rw [results_cell_tmp h, hp]
  have h2 := run_loadVar_row (P := P) w g t ty cs (0, 0) d hg.out hu hd hi
  simp [asAddr, Result.andThen, h2]
theorem results_row {P : Program} {fn : Func} {p : Tmp} {ty : TypeId} (h : fn.results = #[.cell p ty]) (tmps : Array Value) (w : World) (g : Nat) (t : TypeId) (cs : Array Value) (d : TypeDesc)
    (hp : tmps.getD p undef = .pointer (some ⟨g, 0, none⟩)) (hg : Blk w g cs t) (hu : P.underlying ty = some d) (hd : (match d with | .struct _ | .array _ _ => true | _ => false) = true) (hi : (P.info? ty).map (·.size) = some cs.size) :
    (results fn tmps).run P w = .ok (.agg cs) w := results_cell_row h tmps w g t cs (0, 0) d hp hg.out hu hd hi
theorem fd_lit {a : Int} {h l : Nat} {n : Int} (hn : n = (2 ^ (h - l + 1) : Nat)) : 0 ≤ fd a h l ∧ fd a h l < n := by subst hn; exact fd_bd a h l
theorem small {x n : Int} (h : 0 ≤ x ∧ x < n) (hn : n ≤ 9223372036854775808) : -9223372036854775808 ≤ x ∧ x < 9223372036854775808 := by omega
end Go.Proofs.YthkodjkkcgdmfaaGreat.Enc
end
section
namespace Go.Proofs.YthkodjkkcgdmfaaGreat.Hart
open Go Go.RowKit Go.Proofs.YthkodjkkcgdmfaaGreat.Step Go.Proofs.YthkodjkkcgdmfaaGreat.Enc
set_option linter.unusedVariables false
set_option linter.unusedSimpArgs false
set_option maxRecDepth 100000
def hv (h : Hrt) (i : Nat) : Value := (hc h).getD i undef
theorem hv_ok (h : Hrt) {i : Nat} (hi : i < 49) : (hc h)[i]? = some (hv h i) := by
  have : i < (hc h).size := hi
  simp [hv, Array.getD_eq_getD_getElem?, Array.getElem?_eq_getElem this]
theorem hv_pc (h : Hrt) : hv h 32 = .int .u64 h.pc := rfl
theorem hv_x0 (h : Hrt) : hv h 0 = .int .u64 (h.x 0) := rfl
theorem hv_user (h : Hrt) : hv h 33 = .bool h.user := rfl
theorem hv_on (h : Hrt) : hv h 34 = .bool h.on := rfl
theorem hv_spie (h : Hrt) : hv h 35 = .bool h.spie := rfl
theorem hv_spp (h : Hrt) : hv h 36 = .bool h.spp := rfl
theorem hv_sum (h : Hrt) : hv h 37 = .bool h.sum := rfl
theorem hv_mxr (h : Hrt) : hv h 38 = .bool h.mxr := rfl
theorem hv_rsv (h : Hrt) : hv h 39 = .bool h.rsv := rfl
theorem hv_stvec (h : Hrt) : hv h 40 = .int .u64 h.stvec := rfl
theorem hv_sscr (h : Hrt) : hv h 41 = .int .u64 h.sscr := rfl
theorem hv_sepc (h : Hrt) : hv h 42 = .int .u64 h.sepc := rfl
theorem hv_scause (h : Hrt) : hv h 43 = .int .u64 h.scause := rfl
theorem hv_stval (h : Hrt) : hv h 44 = .int .u64 h.stval := rfl
theorem hv_sie (h : Hrt) : hv h 45 = .int .u64 h.sie := rfl
theorem hv_sip (h : Hrt) : hv h 46 = .int .u64 h.sip := rfl
theorem hv_satp (h : Hrt) : hv h 47 = .int .u64 h.satp := rfl
theorem hv_resv (h : Hrt) : hv h 48 = .int .u64 h.resv := rfl
def zh : Hrt := ⟨fun _ => 0, 0, false, false, false, false, false, false, false, 0, 0, 0, 0, 0, 0, 0, 0, 0⟩
theorem zero_hart : (Tryz.prog.info? 25).bind (·.zero) = some (.agg (hc zh)) := by kernel_rfl
theorem size_hart (h : Hrt) : (Tryz.prog.info? 25).map (·.size) = some (hc h).size := (by kernel_rfl : (Tryz.prog.info? 25).map (·.size) = some 49)
theorem pl_u64 : Step.plainT Tryz.prog 22 = true := by kernel_rfl
/-- The numbers are of 64 bits. -/
structure Fit (h : Hrt) : Prop where
  x : ∀ i, i < 32 → U64 (h.x i)
  pc : U64 h.pc
  stvec : U64 h.stvec
  sscr : U64 h.sscr
  sepc : U64 h.sepc
  scause : U64 h.scause
  stval : U64 h.stval
  sie : U64 h.sie
  sip : U64 h.sip
  satp : U64 h.satp
  resv : U64 h.resv
def msk (v : Int) : Int := bits .and .u64 v 546
/-- A hart in order. -/
def ord (h : Hrt) : Hrt := { h with x := xup h.x 0 0, pc := h.pc / 2 * 2, sepc := h.sepc / 2 * 2, stvec := h.stvec / 4 * 4 + h.stvec % 2, sie := msk h.sie, sip := msk h.sip }
set_option maxHeartbeats 2000000 in
theorem order_any (h : Hrt) (hf : Fit h) (w : World) : Calls Tryz.prog 30 #[.agg (hc h)] w fun e w' => e = .returned (.agg (hc (ord h))) ∧ Below w.heap.size w w' := by
  have e1 := u_an1 hf.pc
  have e2 := u_an1 hf.sepc
  have e3 := u_an2 hf.stvec
  have e4 : bits .and .u64 h.sie 546 = msk h.sie := rfl
  have e5 : bits .and .u64 h.sip 546 = msk h.sip := rfl
  clear hf
  go_enter Tryz.func30, Tryz.ntmps30
  go_wp2_with (first
    | ((with_reducible refine Step.gate_box (t := 25) rfl ?_); refine Step.fresh (cs := hc h) (T := 25) rfl ?hr ?_; (case hr => first | (go_simp; done) | (go_simp; rfl)); intro g1 w1 b hg hb; have ST := Lib.hid (S1.made b hg hb); clear b hg hb)
    | ((with_reducible refine Step.gate_alloc (t := 25) rfl ?_); refine Step.freshAlloc rfl rfl (alloc_agg zero_hart) ?_; intro g2 w2 b hg hb; replace ST := Lib.hid (ST.out.more b hg hb); clear b hg hb)
    | ((with_reducible refine Step.gate_store (t := 22) rfl ?_); refine Step.store ST.out.one rfl rfl rfl rfl rfl pl_u64 rfl rfl ?_; intro w3 nb m; simp [go_sem, set_x0, set_pc, set_user, set_on, set_spie, set_spp, set_sum, set_mxr, set_rsv, set_stvec, set_sscr, set_sepc, set_scause, set_stval, set_sie, set_sip, set_satp, set_resv] at nb; replace ST := Lib.hid (ST.out.set1 nb m); clear nb m)
    | ((with_reducible refine Step.gate_store (t := 4) rfl ?_); refine Step.store ST.out.one rfl rfl rfl rfl rfl pl_bool rfl rfl ?_; intro w3 nb m; simp [go_sem, set_x0, set_pc, set_user, set_on, set_spie, set_spp, set_sum, set_mxr, set_rsv, set_stvec, set_sscr, set_sepc, set_scause, set_stval, set_sie, set_sip, set_satp, set_resv] at nb; replace ST := Lib.hid (ST.out.set1 nb m); clear nb m)
    | ((with_reducible refine Step.gate_load (t := 22) rfl ?_); refine Step.load ST.out.one rfl rfl rfl pl_u64 (hv_ok _ (by decide)) ?_; simp only [hv_x0, hv_pc, hv_user, hv_on, hv_spie, hv_spp, hv_sum, hv_mxr, hv_rsv, hv_stvec, hv_sscr, hv_sepc, hv_scause, hv_stval, hv_sie, hv_sip, hv_satp, hv_resv])
    | ((with_reducible refine Step.gate_load (t := 4) rfl ?_); refine Step.load ST.out.one rfl rfl rfl pl_bool (hv_ok _ (by decide)) ?_; simp only [hv_x0, hv_pc, hv_user, hv_on, hv_spie, hv_spp, hv_sum, hv_mxr, hv_rsv, hv_stvec, hv_sscr, hv_sepc, hv_scause, hv_stval, hv_sie, hv_sip, hv_satp, hv_resv])
    | ((with_reducible refine Step.gate_store (t := 25) rfl ?_); refine Step.storeAll ST.out.one rfl rfl rfl rfl rfl (size_hart _) rfl (hc_all _) ?_; intro w3 nb m; replace ST := Lib.hid (ST.out.set1 nb m); clear nb m)
    | ((with_reducible refine Step.gate_load (t := 25) rfl ?_); refine Step.loadAll ST.out.one rfl rfl rfl Tryz.underlying25 rfl (size_hart _) ?_)
    | ((with_reducible refine Step.gate_store (t := 22) rfl ?_); refine Step.store ST.out.two rfl rfl rfl rfl rfl pl_u64 rfl rfl ?_; intro w3 nb m; simp [go_sem, set_x0, set_pc, set_user, set_on, set_spie, set_spp, set_sum, set_mxr, set_rsv, set_stvec, set_sscr, set_sepc, set_scause, set_stval, set_sie, set_sip, set_satp, set_resv] at nb; replace ST := Lib.hid (ST.out.set2 nb m); clear nb m)
    | ((with_reducible refine Step.gate_store (t := 4) rfl ?_); refine Step.store ST.out.two rfl rfl rfl rfl rfl pl_bool rfl rfl ?_; intro w3 nb m; simp [go_sem, set_x0, set_pc, set_user, set_on, set_spie, set_spp, set_sum, set_mxr, set_rsv, set_stvec, set_sscr, set_sepc, set_scause, set_stval, set_sie, set_sip, set_satp, set_resv] at nb; replace ST := Lib.hid (ST.out.set2 nb m); clear nb m)
    | ((with_reducible refine Step.gate_load (t := 22) rfl ?_); refine Step.load ST.out.two rfl rfl rfl pl_u64 (hv_ok _ (by decide)) ?_; simp only [hv_x0, hv_pc, hv_user, hv_on, hv_spie, hv_spp, hv_sum, hv_mxr, hv_rsv, hv_stvec, hv_sscr, hv_sepc, hv_scause, hv_stval, hv_sie, hv_sip, hv_satp, hv_resv])
    | ((with_reducible refine Step.gate_load (t := 4) rfl ?_); refine Step.load ST.out.two rfl rfl rfl pl_bool (hv_ok _ (by decide)) ?_; simp only [hv_x0, hv_pc, hv_user, hv_on, hv_spie, hv_spp, hv_sum, hv_mxr, hv_rsv, hv_stvec, hv_sscr, hv_sepc, hv_scause, hv_stval, hv_sie, hv_sip, hv_satp, hv_resv])
    | ((with_reducible refine Step.gate_store (t := 25) rfl ?_); refine Step.storeAll ST.out.two rfl rfl rfl rfl rfl (size_hart _) rfl (hc_all _) ?_; intro w3 nb m; replace ST := Lib.hid (ST.out.set2 nb m); clear nb m)
    | ((with_reducible refine Step.gate_load (t := 25) rfl ?_); refine Step.loadAll ST.out.two rfl rfl rfl Tryz.underlying25 rfl (size_hart _) ?_))
  refine bodyPost_ret (results_row rfl _ _ g2 _ _ _ rfl ST.out.two Tryz.underlying25 rfl (size_hart _)) rfl ⟨rfl, ST.out.below⟩
end Go.Proofs.YthkodjkkcgdmfaaGreat.Hart
end
