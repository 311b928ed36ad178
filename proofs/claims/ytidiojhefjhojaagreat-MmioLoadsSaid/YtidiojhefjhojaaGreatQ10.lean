/- Parts of the walks and laws for the claim: MapInt; no conditions beyond the theorems' own. -/
import Derived.Deep.Draws
import Derived.KernelRfl
import Derived.Maps.Own
import Derived.Test.YtidiojhefjhojaaGreatProg
import Derived.WalkKit
section
namespace Go.Proofs.YtidiojhefjhojaaGreat.MapInt
open Go.RowKit
set_option linter.unusedSimpArgs false
theorem run_checkKey_i {P : Program} {kt : TypeId} {k : IntKind} (hk : P.underlying kt = some (.int k)) (em : Bool) (n : Int) (W : World) : (Instr.checkKey em 10000 kt (.int k n)).run P W = .ok () W := by
  unfold Instr.checkKey
  simp [run_underlying hk]
theorem run_findKey_i {P : Program} {kt : TypeId} {k : IntKind} (hk : P.underlying kt = some (.int k)) (n : Int) (es : List MapEntry) (r : Option (Nat × Value)) (hf : Instr.findNow (.int k) (.int k n) es 0 = some r) (W : World) :
    (Instr.findKey kt (.int k n) es).run P W = .ok r W := by
  unfold Instr.findKey
  simp [run_underlying hk, hf]
theorem set_last (W : World) (o o' : Obj) : { (W.alloc o) with heap := (W.alloc o).heap.setIfInBounds W.heap.size o' } = W.alloc o' := by
  have e : ∀ x, (W.alloc x).heap = W.heap.push x := fun _ => rfl
  have e2 : (W.heap.push o).setIfInBounds W.heap.size o' = W.heap.push o' := by
    apply Array.ext
    · simp
    · intro i h1 h2
      simp only [Array.size_setIfInBounds, Array.size_push] at h1 h2
      rw [Array.getElem_setIfInBounds (by simpa using h1)]
      by_cases h : W.heap.size = i
      · subst h; simp
      · rw [if_neg h, Array.getElem_push, Array.getElem_push]
        have : i < W.heap.size := by omega
        simp [this]
  rw [e, e2]; rfl
theorem run_put {P : Program} {t kt et : TypeId} {k : IntKind} (ht : P.underlying t = some (.map kt et)) (hk : P.underlying kt = some (.int k)) (es : Array MapEntry) (c : Nat) (n : Int) (v : Value)
    (hf : Instr.findNow (.int k) (.int k n) es.toList 0 = some none) (W : World) :
    (Instr.mapUpdate t (.map (some W.heap.size)) (.int k n) v).run P (W.alloc (.map es c)) = .ok () (W.alloc (.map (es.push { key := .int k n, val := v, born := c }) (c + 1))) := by
  have hb : (W.alloc (.map es c)).heap[W.heap.size]? = some (.map es c) := (MapKept.heap_alloc W _).1
  simp [Instr.mapUpdate, run_underlying ht, MapKept.run_getObj_map hb, run_checkKey_i hk, run_findKey_i hk n _ _ hf, MapKept.run_setObj_map _ hb, Result.andThen]
  exact set_last W _ _
theorem run_look {P : Program} {t kt et : TypeId} {k : IntKind} (ht : P.underlying t = some (.map kt et)) (hk : P.underlying kt = some (.int k)) {es : Array MapEntry} {c : Nat} {n : Int} {i : Nat} {v : Value} {r : Nat}
    (hf : Instr.findNow (.int k) (.int k n) es.toList 0 = some (some (i, v))) (W : World) (hb : W.heap[r]? = some (.map es c)) :
    (Instr.lookup t (.map (some r)) (.int k n) true).run P W = .ok (.tuple #[v, .bool true]) W := by
  simp [Instr.lookup, run_underlying ht, MapKept.run_getObj_map hb, run_checkKey_i hk, run_findKey_i hk n _ _ hf, Result.andThen]
theorem run_look_one {P : Program} {t kt et : TypeId} {k : IntKind} (ht : P.underlying t = some (.map kt et)) (hk : P.underlying kt = some (.int k)) {es : Array MapEntry} {c : Nat} {n : Int} {i : Nat} {v : Value} {r : Nat}
    (hf : Instr.findNow (.int k) (.int k n) es.toList 0 = some (some (i, v))) (W : World) (hb : W.heap[r]? = some (.map es c)) :
    (Instr.lookup t (.map (some r)) (.int k n) false).run P W = .ok v W := by
  simp [Instr.lookup, run_underlying ht, MapKept.run_getObj_map hb, run_checkKey_i hk, run_findKey_i hk n _ _ hf, Result.andThen]
theorem run_look_none {P : Program} {t kt et : TypeId} {k : IntKind} (ht : P.underlying t = some (.map kt et)) (hk : P.underlying kt = some (.int k)) {es : Array MapEntry} {c : Nat} {n : Int} {z : Value} {r : Nat}
    (hf : Instr.findNow (.int k) (.int k n) es.toList 0 = some none) (W : World) (hz : (zeroValue et).run P W = .ok z W) (hb : W.heap[r]? = some (.map es c)) :
    (Instr.lookup t (.map (some r)) (.int k n) true).run P W = .ok (.tuple #[z, .bool false]) W := by
  simp [Instr.lookup, run_underlying ht, MapKept.run_getObj_map hb, run_checkKey_i hk, run_findKey_i hk n _ _ hf, hz, Result.andThen]
/-- The look-up at the operation, whose answer is known. -/
theorem wpList_look {P : Program} {w : World} {ops : Array Oper} {rest : List Oper} {o : Oper} {a : Act} {Q : Exit → Act → World → Prop}
    (hg : o.guard = none) (m x : Operand) (t : TypeId) (ok : Bool) (hop : o.op = Op.lookup t m x ok) (mv xv v : Value) (hm : a.eval m = mv) (hx : a.eval x = xv)
    (hrun : (Instr.lookup t mv xv ok).run P w = .ok v w) (hK : wpList P ops Q rest (a.put o.dst v) w) : wpList P ops Q (o :: rest) a w := by
  refine wpList_plain hg fun K' hK' => ?_
  unfold Oper.wp
  simp [execOp, hop, hm, hx, hrun, Result.andThen]
  exact hK' _ _ hK
end Go.Proofs.YtidiojhefjhojaaGreat.MapInt
end
