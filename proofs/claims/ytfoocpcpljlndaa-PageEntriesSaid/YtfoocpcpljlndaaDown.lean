/- Walk.down: the walk down the tables, by a Read that is one of the program's two closures (written by gendown.py). -/
import Derived.Test.YtfoocpcpljlndaaPageE
import Derived.ScopeJumps
import Derived.Deep.RegionHeld3
namespace Go.Proofs.Ytfoocpcpljlndaa.Tab
open Go Go.RowKit Go.Proofs.Ytfoocpcpljlndaa.Step Go.Proofs.Ytfoocpcpljlndaa.Mem
set_option linter.unusedVariables false
set_option linter.unusedSimpArgs false
set_option maxRecDepth 100000

theorem c_o0 {v : Int} (h : U64 v) : (bits .and .u64 (v / 1024) 0 != 0) = odd v 0 := by
  have e : bits .and .u64 (v / 1024) 0 = v / 1024 % 1 := and_mask 0 ⟨by have := h.1; omega, by have := h.2; omega⟩ (by decide)
  have e2 : odd v 0 = false := decide_eq_false (by omega)
  rw [e, e2]; simp
theorem c_o1 {v : Int} (h : U64 v) : (bits .and .u64 (v / 1024) 511 != 0) = odd v 1 := by
  have e : bits .and .u64 (v / 1024) 511 = v / 1024 % 512 := and_mask 9 ⟨by have := h.1; omega, by have := h.2; omega⟩ (by decide)
  have e2 : odd v 1 = decide (v / 1024 % 512 ≠ 0) := decide_eq_decide.2 (by show pn v % 512 ≠ 0 ↔ _; unfold pn; omega)
  rw [e, e2]
  by_cases g : v / 1024 % 512 = 0 <;> simp [g]
theorem c_o2 {v : Int} (h : U64 v) : (bits .and .u64 (v / 1024) 262143 != 0) = odd v 2 := by
  have e : bits .and .u64 (v / 1024) 262143 = v / 1024 % 262144 := and_mask 18 ⟨by have := h.1; omega, by have := h.2; omega⟩ (by decide)
  have e2 : odd v 2 = decide (v / 1024 % 262144 ≠ 0) := decide_eq_decide.2 (by show pn v % 262144 ≠ 0 ↔ _; unfold pn; omega)
  rw [e, e2]
  by_cases g : v / 1024 % 262144 = 0 <;> simp [g]
/-- A scope that begins, comes to its one label, and may jump back to it. -/
theorem scope_label {P : Program} {a : Act} {w : World} {Q : Exit → Act → World → Prop} {pre rest : Code} (l : Nat) (J : Act → World → Prop) (μ : Act → World → Nat) (hf : findLabel (pre.seq ((Code.label l).seq rest)) l = some (Code.skip.seq rest))
    (first : pre.wp P (Exit.then J (fun _ _ _ => False)) a w)
    (pass : ∀ a w, J a w → rest.wp P (Exit.jump l (fun a' w' => J a' w' ∧ μ a' w' < μ a w) Q) a w) : (Code.scope (pre.seq ((Code.label l).seq rest))).wp P Q a w := by
  refine wp_scope_jumps l J μ hf (wp_seq (Code.wp_mono ?_ first)) (fun a w h => wp_seq (wp_skip (pass a w h)))
  intro e a' w' h
  cases e with
  | normal =>
    refine wp_seq (wp_label (Code.wp_mono ?_ (pass a' w' h)))
    intro e2 a2 w2 h2
    cases e2 with
    | goto l' => exact ⟨h2.1, h2.2.1⟩
    | _ => exact h2
  | _ => exact h.elim
/-- What the structure of a walk holds: the closure, and cells beside the leaf and the level. -/
structure Wk (W : World) (g : Nat) (cs : Array Value) (T : TypeId) (f : Value) (lev : Int) : Prop where
  blk : Blk W g cs T
  read : cs[0]? = some f
  leaf : ∃ v, cs[1]? = some (.int .u64 v)
  level : cs[2]? = some (.int .i64 lev)
/-- The level that stands there. -/
def lev2 (g : Nat) (w : World) : Nat := match w.cell? ⟨g, 2, none⟩ with | some v => (intOf v).toNat | none => 0
theorem lev2_of {g : Nat} {w : World} {v : Value} (h : w.cell? ⟨g, 2, none⟩ = some v) : lev2 g w = (intOf v).toNat := by unfold lev2; rw [h]
/-- The same cells but the leaf and the level. -/
def Like (cs cs' : Array Value) : Prop := cs'.size = cs.size ∧ ∀ i, i ≠ 1 → i ≠ 2 → cs'[i]? = cs[i]?
theorem Like.refl (cs : Array Value) : Like cs cs := ⟨rfl, fun _ _ _ => rfl⟩
theorem Like.set {cs cs' : Array Value} (h : Like cs cs') {i : Nat} (hi : i = 1 ∨ i = 2) (v : Value) : Like cs (cs'.setIfInBounds i v) :=
  ⟨by simpa using h.1, fun k h1 h2 => by rw [Array.getElem?_setIfInBounds_ne (by omega)]; exact h.2 k h1 h2⟩
end Go.Proofs.Ytfoocpcpljlndaa.Tab
