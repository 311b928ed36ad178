/- Steps of a walk whose world is a letter: what is known of it are whole blocks, and that nothing older was turned. -/
import Derived.Test.YtdhmfjcijcdnjaaCalmB
import Derived.Laws.Rows
import Derived.Laws.Tables
import Derived.Laws.CopyRow
import Derived.Deep.MidRow
import Derived.WalkKit
import Derived.Laws.MakeOwn
namespace Go.Proofs.Ytdhmfjcijcdnjaa.Step
open Go Go.RowKit
set_option linter.unusedVariables false
set_option linter.unusedSimpArgs false

/-- A block that is known whole. -/
structure Blk (W : World) (g : Nat) (cs : Array Value) (T : TypeId) : Prop where mk :: (out : W.heap[g]? = some (.cells cs T (0, 0)))
/-- From W to W' only what S names may have been turned; new blocks may stand behind. -/
structure Mod (S : Nat → Prop) (W W' : World) : Prop where
  os : W'.os = W.os
  tape : W'.tape = W.tape
  output : W'.output = W.output
  size : W.heap.size ≤ W'.heap.size
  block : ∀ k, k < W.heap.size → ¬ S k → W'.heap[k]? = W.heap[k]?
def Nil : Nat → Prop := fun _ => False
def One (g : Nat) : Nat → Prop := fun k => k = g
theorem Mod.refl (S : Nat → Prop) (W : World) : Mod S W W := ⟨rfl, rfl, rfl, Nat.le_refl _, fun _ _ _ => rfl⟩
theorem Mod.trans {S : Nat → Prop} {a b c : World} (h : Mod S a b) (k : Mod S b c) : Mod S a c :=
  ⟨k.os.trans h.os, k.tape.trans h.tape, k.output.trans h.output, Nat.le_trans h.size k.size, fun i hi hs => (k.block i (Nat.lt_of_lt_of_le hi h.size) hs).trans (h.block i hi hs)⟩
theorem Mod.mono {S S' : Nat → Prop} {a b : World} (h : Mod S a b) (hs : ∀ k, k < a.heap.size → S k → S' k) : Mod S' a b := ⟨h.os, h.tape, h.output, h.size, fun i hi hn => h.block i hi fun hS => hn (hs i hi hS)⟩
/-- What is newer may be turned. -/
theorem Mod.trans_new {S S' : Nat → Prop} {a b c : World} (h : Mod S a b) (k : Mod S' b c) (hn : ∀ i, i < a.heap.size → S' i → S i) : Mod S a c :=
  ⟨k.os.trans h.os, k.tape.trans h.tape, k.output.trans h.output, Nat.le_trans h.size k.size, fun i hi hs => (k.block i (Nat.lt_of_lt_of_le hi h.size) fun hS => hs (hn i hi hS)).trans (h.block i hi hs)⟩
theorem Mod.of_below {W W' : World} (h : Below W.heap.size W W') (S : Nat → Prop) : Mod S W W' := ⟨h.os, h.tape, h.output, h.size, fun k hk _ => h.block k hk⟩
theorem Mod.below {W W' : World} (h : Mod Nil W W') : Below W.heap.size W W' := ⟨h.os, h.tape, h.output, h.size, fun k hk => h.block k hk id⟩
/-- What was turned is newer than the base. -/
theorem below_mod {B : Nat} {w W W' : World} {S : Nat → Prop} (h : Below B w W) (hB : B ≤ W.heap.size) (m : Mod S W W') (hs : ∀ k, k < W.heap.size → S k → B ≤ k) : Below B w W' :=
  ⟨m.os.trans h.os, m.tape.trans h.tape, m.output.trans h.output, Nat.le_trans h.size m.size, fun k hk => (m.block k (by omega) fun hS => by have := hs k (by omega) hS; omega).trans (h.block k hk)⟩
theorem below_one {w W W' : World} {g : Nat} (h : Below w.heap.size w W) (m : Mod (One g) W W') (hg : w.heap.size ≤ g) : Below w.heap.size w W' := below_mod h h.size m fun k _ e => by obtain rfl := e; exact hg
theorem below_below {w W W' : World} (h : Below w.heap.size w W) (k : Below W.heap.size W W') : Below w.heap.size w W' := h.trans (k.mono h.size)

theorem Blk.lt {W : World} {g : Nat} {cs : Array Value} {T : TypeId} (h : Blk W g cs T) : g < W.heap.size := (Array.getElem?_eq_some_iff.1 h.out).1
theorem Blk.mod {W W' : World} {g : Nat} {cs : Array Value} {T : TypeId} {S : Nat → Prop} (h : Blk W g cs T) (m : Mod S W W') (hs : ¬ S g) : Blk W' g cs T := ⟨(m.block g h.lt hs).trans h.out⟩
theorem Blk.one {W W' : World} {g g' : Nat} {cs : Array Value} {T : TypeId} (h : Blk W g cs T) (m : Mod (One g') W W') (hs : g ≠ g') : Blk W' g cs T := h.mod m hs
theorem Blk.below {W W' : World} {g : Nat} {cs : Array Value} {T : TypeId} (h : Blk W g cs T) (m : Below W.heap.size W W') : Blk W' g cs T := ⟨(m.block g h.lt).trans h.out⟩
theorem Blk.cell {W : World} {g : Nat} {cs : Array Value} {T : TypeId} (h : Blk W g cs T) (i : Nat) : W.cell? ⟨g, i, none⟩ = cs[i]? := cell_of_row W g i cs T (0, 0) h.out
theorem Blk.frozen {W : World} {g : Nat} {cs : Array Value} {T : TypeId} (h : Blk W g cs T) (i : Nat) : W.frozen? ⟨g, i, none⟩ = false := by simp [World.frozen?, h.out]
theorem Blk.inj {W : World} {g : Nat} {cs cs' : Array Value} {T T' : TypeId} (h : Blk W g cs T) (h' : Blk W g cs' T') : cs = cs' ∧ T = T' := by
  have := h.out.symm.trans h'.out
  simpa using this

/-! ### what the operations on blocks come to -/
theorem setRow_out (W : World) (g : Nat) (cs cs' : Array Value) (T : TypeId) (h : Blk W g cs T) : Blk (W.setRow g cs') g cs' T := ⟨setRow_heap W g cs cs' T (0, 0) h.out⟩
theorem setRow_mod (W : World) (g : Nat) (cs' : Array Value) : Mod (One g) W (W.setRow g cs') := by
  refine ⟨rfl, rfl, rfl, by simp [World.setRow], fun k hk hs => ?_⟩
  have : g ≠ k := fun e => hs e.symm
  simp [World.setRow, Array.getElem?_modify, this]
theorem setCell_out (W : World) (g i : Nat) (u : Value) (cs : Array Value) (T : TypeId) (h : Blk W g cs T) : Blk (W.setCell ⟨g, i, none⟩ u) g (cs.setIfInBounds i u) T := ⟨by simp [World.setCell, Array.getElem?_modify, h.out]⟩
theorem setCell_mod (W : World) (g i : Nat) (u : Value) : Mod (One g) W (W.setCell ⟨g, i, none⟩ u) := by
  refine ⟨rfl, rfl, rfl, by simp [World.setCell], fun k hk hs => ?_⟩
  have : g ≠ k := fun e => hs e.symm
  simp [World.setCell, Array.getElem?_modify, this]
theorem alloc_out (W : World) (cs : Array Value) (T : TypeId) : Blk (W.alloc (.cells cs T (0, 0))) W.heap.size cs T := ⟨(MapKept.heap_alloc W _).1⟩
theorem alloc_below (W : World) (o : Obj) : Below W.heap.size W (W.alloc o) := (Below.refl _ _).alloc (Nat.le_refl _) o

section
variable {P : Program} {ops : Array Oper} {rest : List Oper} {o : Oper} {a : Act} {W : World} {Q : Exit → Act → World → Prop}

/-- Is a type's variable one cell? -/
def plainT (P : Program) (t : TypeId) : Bool := (match P.underlying t with | some (.struct _) | some (.array _ _) | none => false | _ => true) && (P.info? t).map (·.size) == some 1
theorem run_load1 {t : TypeId} (ht : plainT P t = true) {ad : Addr} {v : Value} (hc : W.cell? ad = some v) : (Instr.loadAt t (.pointer (some ad))).run P W = .ok v W := by
  unfold plainT at ht
  simp only [Bool.and_eq_true] at ht
  obtain ⟨h1, _⟩ := ht
  cases hu : P.underlying t with
  | none => rw [hu] at h1; cases h1
  | some d =>
    rw [hu] at h1
    cases d <;> simp at h1 <;> simp [Instr.loadAt, Instr.sureAddr, loadVar, isAgg, run_underlying hu, hc, Result.andThen]
theorem run_store1 {t : TypeId} (ht : plainT P t = true) {ad : Addr} {u v : Value} (hv : v.oneCell' = true) (hc : W.cell? ad = some u) (hf : W.frozen? ad = false) : (Instr.storeAt t (.pointer (some ad)) v).run P W = .ok () (W.setCell ad v) := by
  unfold plainT at ht
  simp only [Bool.and_eq_true, beq_iff_eq] at ht
  obtain ⟨_, h2⟩ := ht
  cases hi : P.info? t with
  | none => rw [hi] at h2; cases h2
  | some i =>
    rw [hi] at h2
    have h3 : i.size = 1 := by simpa using h2
    have hcells : v.cells = #[v] := by cases v <;> first | rfl | simp [Value.oneCell'] at hv
    have hadd : ad.add 0 = ad := by unfold Addr.add; split <;> simp_all
    simp [Instr.storeAt, Instr.sureAddr, storeVar, sizeOf, typeInfo, hi, h3, hcells, storeCells, run_store P W ad v _ hv, hadd, hc, hf, Result.andThen]

/-! Gates: they let by only where such an operation stands ahead. -/
theorem gate_alloc {t : TypeId} (_ : o.op = .alloc t) (h : wpList P ops Q (o :: rest) a W) : wpList P ops Q (o :: rest) a W := h
theorem gate_box {t : TypeId} {x : Operand} (_ : o.op = .box t x) (h : wpList P ops Q (o :: rest) a W) : wpList P ops Q (o :: rest) a W := h
theorem gate_build {t : TypeId} {n : Nat} {ps : Array (Nat × Operand)} (_ : o.op = .buildSlice t n ps) (h : wpList P ops Q (o :: rest) a W) : wpList P ops Q (o :: rest) a W := h
theorem gate_load {t : TypeId} {x : Operand} (_ : o.op = .load t x) (h : wpList P ops Q (o :: rest) a W) : wpList P ops Q (o :: rest) a W := h
theorem gate_store {t : TypeId} {x y : Operand} (_ : o.op = .store t x y) (h : wpList P ops Q (o :: rest) a W) : wpList P ops Q (o :: rest) a W := h
theorem gate_lookup {t : TypeId} {x y : Operand} {b : Bool} (_ : o.op = .lookup t x y b) (h : wpList P ops Q (o :: rest) a W) : wpList P ops Q (o :: rest) a W := h
theorem gate_dst {N : Tmp} (_hN : o.dst = some N) (h : wpList P ops Q (o :: rest) a W) : wpList P ops Q (o :: rest) a W := h
/-- A value, in a world that stays. -/
theorem value {v : Value} (hg : o.guard = none) (hr : (execOp a.eval o).run P W = .ok (.value v) W) (h : wpList P ops Q rest (a.put o.dst v) W) : wpList P ops Q (o :: rest) a W := by
  refine wpList_plain hg fun K hK => ?_
  unfold Oper.wp; rw [hr]; exact hK _ _ h
/-- A variable is laid (alloc, box): a new block. -/
theorem fresh {cs : Array Value} {T : TypeId} (hg : o.guard = none) (hr : (execOp a.eval o).run P W = .ok (.value (.pointer (some ⟨W.heap.size, 0, none⟩))) (W.alloc (.cells cs T (0, 0))))
    (h : ∀ g W', Blk W' g cs T → W.heap.size ≤ g → Below W.heap.size W W' → wpList P ops Q rest (a.put o.dst (.pointer (some ⟨g, 0, none⟩))) W') : wpList P ops Q (o :: rest) a W := by
  refine wpList_plain hg fun K hK => ?_
  unfold Oper.wp; rw [hr]; exact hK _ _ (h _ _ (alloc_out _ _ _) (Nat.le_refl _) (alloc_below _ _))
/-- A variable is laid, by what alloc comes to. -/
theorem freshAlloc {t : TypeId} {cs : Array Value} (hg : o.guard = none) (ho : o.op = .alloc t) (hr : ∀ W, (Instr.alloc t true (.tuple #[])).run P W = .ok (.pointer (some ⟨W.heap.size, 0, none⟩)) (W.alloc (.cells cs t (0, 0))))
    (h : ∀ g W', Blk W' g cs t → W.heap.size ≤ g → Below W.heap.size W W' → wpList P ops Q rest (a.put o.dst (.pointer (some ⟨g, 0, none⟩))) W') : wpList P ops Q (o :: rest) a W :=
  fresh hg (by simp [execOp, ho, hr W, Result.andThen]) h
/-- A slice is laid out. -/
theorem freshSlice {cs : Array Value} {T : TypeId} {n m : Nat} (hg : o.guard = none) (hr : (execOp a.eval o).run P W = .ok (.value (.slice (some ⟨W.heap.size, 0, none⟩) n m)) (W.alloc (.cells cs T (0, 0))))
    (h : ∀ g W', Blk W' g cs T → W.heap.size ≤ g → Below W.heap.size W W' → wpList P ops Q rest (a.put o.dst (.slice (some ⟨g, 0, none⟩) n m)) W') : wpList P ops Q (o :: rest) a W := by
  refine wpList_plain hg fun K hK => ?_
  unfold Oper.wp; rw [hr]; exact hK _ _ (h _ _ (alloc_out _ _ _) (Nat.le_refl _) (alloc_below _ _))
theorem madeCells_one (z : Value) (n : Nat) : madeCells #[z] n = Array.replicate n z := by
  apply Array.ext (by simp [madeCells])
  intro i h1 h2
  simp [madeCells, Nat.mod_one]
theorem gate_make {t : TypeId} {x y : Operand} (_ : o.op = .makeSlice t x y) (h : wpList P ops Q (o :: rest) a W) : wpList P ops Q (o :: rest) a W := h
/-- A slice is made, of elements of one cell. -/
theorem make {t e : TypeId} {z : Value} {n b : Nat} {x y : Operand} {k k2 : IntKind} (hg : o.guard = none) (ho : o.op = .makeSlice t x y) (hx : a.eval x = .int k n) (hy : a.eval y = .int k2 n) (ht : P.underlying t = some (.slice e))
    (hi : (P.info? e).map (fun i => (i.size, i.bytes, i.zero)) = some (1, b, some z)) (hz : z.cells = #[z]) (hb : b * n ≤ 281474976710656) (hn : n ≤ 9223372036854775807)
    (h : ∀ g W', Blk W' g (Array.replicate n z) e → W.heap.size ≤ g → Below W.heap.size W W' → wpList P ops Q rest (a.put o.dst (.slice (some ⟨g, 0, none⟩) n n)) W') : wpList P ops Q (o :: rest) a W := by
  cases hi' : P.info? e with
  | none => rw [hi'] at hi; cases hi
  | some i =>
    rw [hi'] at hi
    simp only [Option.map_some, Option.some.injEq, Prod.mk.injEq] at hi
    obtain ⟨h1, h2, h3⟩ := hi
    have hb' : (i.bytes : Int) * (n : Int) ≤ 281474976710656 := by
      rw [h2]
      have h : ((b * n : Nat) : Int) ≤ 281474976710656 := by omega
      rwa [Int.natCast_mul] at h
    have hr := run_make (P := P) W t e i z ht hi' h3 k k2 n n (by omega) (Int.le_refl _) hb' (by omega)
    simp only [Int.toNat_natCast, h1, Nat.mul_one, hz, madeCells_one] at hr
    refine freshSlice (cs := Array.replicate n z) (T := e) hg ?_ h
    simp [execOp, ho, hx, hy, hr, Result.andThen]
/-- A cell is read. -/
theorem load {t : TypeId} {x : Operand} {g i : Nat} {cs : Array Value} {T : TypeId} {v : Value} (hB : Blk W g cs T) (hg : o.guard = none) (ho : o.op = .load t x) (hx : a.eval x = .pointer (some ⟨g, i, none⟩)) (ht : plainT P t = true) (hv : cs[i]? = some v)
    (h : wpList P ops Q rest (a.put o.dst v) W) : wpList P ops Q (o :: rest) a W := by
  refine value hg ?_ h
  have := run_load1 (P := P) ht ((hB.cell i).trans hv)
  simp [execOp, ho, hx, this, Result.andThen]
/-- A variable of several cells is read. -/
theorem loadAll {t : TypeId} {x : Operand} {g : Nat} {cs : Array Value} {T : TypeId} {d : TypeDesc} (hB : Blk W g cs T) (hg : o.guard = none) (ho : o.op = .load t x) (hx : a.eval x = .pointer (some ⟨g, 0, none⟩)) (hu : P.underlying t = some d)
    (hd : (match d with | .struct _ | .array _ _ => true | _ => false) = true) (hi : (P.info? t).map (·.size) = some cs.size) (h : wpList P ops Q rest (a.put o.dst (.agg cs)) W) : wpList P ops Q (o :: rest) a W :=
  wpList_load_row hg t x ho g hx T cs (0, 0) d hB.out hu hd hi h
/-- A cell is written. -/
theorem store {t : TypeId} {x y : Operand} {g i : Nat} {cs : Array Value} {T : TypeId} {v : Value} (hB : Blk W g cs T) (hg : o.guard = none) (ho : o.op = .store t x y) (hn : o.dst = none) (hx : a.eval x = .pointer (some ⟨g, i, none⟩)) (hy : a.eval y = v) (ht : plainT P t = true) (hv : v.oneCell' = true) (hi' : Nat.blt i cs.size = true)
    (h : ∀ W', Blk W' g (cs.setIfInBounds i v) T → Mod (One g) W W' → wpList P ops Q rest a W') : wpList P ops Q (o :: rest) a W := by
  have hi : i < cs.size := Nat.le_of_ble_eq_true hi'
  refine wpList_plain hg fun K hK => ?_
  have := run_store1 (P := P) ht hv ((hB.cell i).trans (Array.getElem?_eq_getElem hi)) (hB.frozen i)
  unfold Oper.wp
  simp [execOp, ho, hx, hy, this, Result.andThen]
  simp only [Oper.upon, hn, Act.put]
  exact hK _ _ (h _ (setCell_out _ _ _ _ _ _ hB) (setCell_mod _ _ _ _))
/-- A variable of several cells is written whole. -/
theorem storeAll {t : TypeId} {x y : Operand} {g : Nat} {cs vs : Array Value} {T : TypeId} (hB : Blk W g cs T) (hg : o.guard = none) (ho : o.op = .store t x y) (hn : o.dst = none) (hx : a.eval x = .pointer (some ⟨g, 0, none⟩)) (hy : a.eval y = .agg vs) (hi : (P.info? t).map (·.size) = some vs.size)
    (hs : cs.size = vs.size) (h1 : vs.toList.all (·.oneCell') = true) (h : ∀ W', Blk W' g vs T → Mod (One g) W W' → wpList P ops Q rest a W') : wpList P ops Q (o :: rest) a W := by
  refine wpList_plain hg fun K hK => ?_
  have hrun := run_storeVar_row (P := P) W g T t cs vs hB.out hi hs (by rw [← Array.all_toList]; exact h1)
  unfold Oper.wp
  simp [execOp, ho, hx, hy, Instr.storeAt, Instr.sureAddr, hrun, Result.andThen]
  simp only [Oper.upon, hn, Act.put]
  exact hK _ _ (h _ (setRow_out _ _ _ _ _ hB) (setRow_mod _ _ _))
end
end Go.Proofs.Ytdhmfjcijcdnjaa.Step
