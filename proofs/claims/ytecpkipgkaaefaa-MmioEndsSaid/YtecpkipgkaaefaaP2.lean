/- Parts of the walks and laws for the claim: Pick, Cells; no conditions beyond the theorems' own. -/
import Derived.Deep.RegionHeld3
import Derived.Test.YtecpkipgkaaefaaP1
section
namespace Go.Proofs.Ytecpkipgkaaefaa.Enc
open Go Go.RowKit Go.Proofs.Ytecpkipgkaaefaa.Step
set_option linter.unusedVariables false
set_option linter.unusedSimpArgs false
set_option maxRecDepth 100000
/-- The element of a list; 0: there is none. -/
def pk (L : List Int) (x : Int) : Int := if x < 0 then 0 else L.getD x.toNat 0
theorem below_drawn {w w' : World} (h : ∃ k, w' = w.drewN k) : Below w.heap.size w w' := by
  obtain ⟨k, rfl⟩ := h
  exact ⟨rfl, rfl, rfl, Nat.le_refl _, fun _ _ => rfl⟩
theorem calls_below {P : Program} {f : FuncId} {args : Array Value} {w : World} {r : Ending} (h : Calls P f args w fun e w' => e = r ∧ ∃ k, w' = w.drewN k) : Calls P f args w fun e w' => e = r ∧ Below w.heap.size w w' := h.mono fun e w' k => ⟨k.1, below_drawn k.2⟩
def ints (L : List Int) : Array Value := (L.map fun x => Value.int .i64 x).toArray
theorem ints_at (L : List Int) (k : Nat) (h : k < L.length) : (ints L)[k]? = some (.int .i64 (L.getD k 0)) := by
  simp [ints, List.getElem?_map, List.getD, List.getElem?_eq_getElem h]
theorem pick_any {W : World} {g n : Nat} {cs : Array Value} {T : TypeId} (hb : Blk W g cs T) (L : List Int) (hcs : cs = ints L) (hn : n = L.length) (hl : L.length ≤ 1000) (x : Int) (hx : -9223372036854775808 ≤ x ∧ x < 9223372036854775808) :
    Calls Try.prog 47 #[.slice (some ⟨g, 0, none⟩) n n, .int .i64 x] W fun e w' => e = .returned (.int .i64 (pk L x)) ∧ Below W.heap.size W w' := by
  subst hn hcs
  unfold pk
  by_cases h0 : x < 0
  · rw [if_pos h0]
    go_enter Try.func47, Try.ntmps47
    go_wp2
    go_ret
    exact ⟨rfl, Below.refl _ _⟩
  · rw [if_neg h0]
    obtain ⟨k, rfl⟩ := Int.eq_ofNat_of_zero_le (show 0 ≤ x by omega)
    rw [Int.toNat_natCast]
    by_cases h1 : k < L.length
    · have hc : W.cell? ⟨g, k, none⟩ = some (.int .i64 (L.getD k 0)) := (hb.cell k).trans (ints_at L k h1)
      generalize L.getD k 0 = v at hc ⊢
      go_enter Try.func47, Try.ntmps47
      go_wp2
      go_ret
      exact ⟨rfl, Below.refl _ _⟩
    · have hz : L.getD k 0 = 0 := by simp [List.getD, List.getElem?_eq_none (show L.length ≤ k by omega)]
      rw [hz]
      go_enter Try.func47, Try.ntmps47
      go_wp2
      go_ret
      exact ⟨rfl, Below.refl _ _⟩
theorem rpick_any {W : World} {g n : Nat} {cs : Array Value} {T : TypeId} (hb : Blk W g cs T) (L : List Int) (hcs : cs = ints L) (hn : n = L.length) (hl : L.length ≤ 1000) (x : Int) (hx : -9223372036854775808 ≤ x ∧ x < 9223372036854775808) :
    Calls Try.prog 29 #[.slice (some ⟨g, 0, none⟩) n n, .int .i64 x] W fun e w' => e = .returned (.int .i64 (pk L x)) ∧ Below W.heap.size W w' := by
  subst hn hcs
  unfold pk
  by_cases h0 : x < 0
  · rw [if_pos h0]
    go_enter Try.func29, Try.ntmps29
    go_wp2
    go_ret
    exact ⟨rfl, Below.refl _ _⟩
  · rw [if_neg h0]
    obtain ⟨k, rfl⟩ := Int.eq_ofNat_of_zero_le (show 0 ≤ x by omega)
    rw [Int.toNat_natCast]
    by_cases h1 : k < L.length
    · have hc : W.cell? ⟨g, k, none⟩ = some (.int .i64 (L.getD k 0)) := (hb.cell k).trans (ints_at L k h1)
      generalize L.getD k 0 = v at hc ⊢
      go_enter Try.func29, Try.ntmps29
      go_wp2
      go_ret
      exact ⟨rfl, Below.refl _ _⟩
    · have hz : L.getD k 0 = 0 := by simp [List.getD, List.getElem?_eq_none (show L.length ≤ k by omega)]
      rw [hz]
      go_enter Try.func29, Try.ntmps29
      go_wp2
      go_ret
      exact ⟨rfl, Below.refl _ _⟩
end Go.Proofs.Ytecpkipgkaaefaa.Enc
end
section
namespace Go.Proofs.Ytecpkipgkaaefaa.Enc
open Go Go.RowKit Go.Proofs.Ytecpkipgkaaefaa.Step
set_option linter.unusedVariables false
set_option linter.unusedSimpArgs false
set_option maxRecDepth 100000
/-- One instruction of the call's own, at g; nothing older was turned. -/
structure S1 (W w : World) (T : TypeId) (g : Nat) (c : Array Value) : Prop where
  below : Below W.heap.size W w
  one : Blk w g c T
  lo : W.heap.size ≤ g
/-- Two of them. -/
structure S2 (W w : World) (T : TypeId) (g r : Nat) (c d : Array Value) : Prop where
  below : Below W.heap.size W w
  one : Blk w g c T
  two : Blk w r d T
  ne : g ≠ r
  lo : W.heap.size ≤ g
  lo2 : W.heap.size ≤ r
section
variable {W w w' : World} {T : TypeId} {g r : Nat} {c c' d d' : Array Value}
theorem S1.made (b : Blk w g c T) (hg : W.heap.size ≤ g) (hb : Below W.heap.size W w) : S1 W w T g c := ⟨hb, b, hg⟩
theorem S1.call (h : S1 W w T g c) (hb : Below w.heap.size w w') : S1 W w' T g c := ⟨below_below h.below hb, h.one.below hb, h.lo⟩
theorem S1.set1 (h : S1 W w T g c) (nb : Blk w' g c' T) (m : Mod (One g) w w') : S1 W w' T g c' := ⟨below_one h.below m h.lo, nb, h.lo⟩
theorem S1.more (h : S1 W w T g c) (b : Blk w' r d T) (hr : w.heap.size ≤ r) (hb : Below w.heap.size w w') : S2 W w' T g r c d :=
  ⟨below_below h.below hb, h.one.below hb, b, fun e => by have := h.one.lt; omega, h.lo, by have := h.below.size; omega⟩
theorem S2.call (h : S2 W w T g r c d) (hb : Below w.heap.size w w') : S2 W w' T g r c d := ⟨below_below h.below hb, h.one.below hb, h.two.below hb, h.ne, h.lo, h.lo2⟩
theorem S2.set1 (h : S2 W w T g r c d) (nb : Blk w' g c' T) (m : Mod (One g) w w') : S2 W w' T g r c' d := ⟨below_one h.below m h.lo, nb, h.two.one m h.ne.symm, h.ne, h.lo, h.lo2⟩
theorem S2.set2 (h : S2 W w T g r c d) (nb : Blk w' r d' T) (m : Mod (One r) w w') : S2 W w' T g r c d' := ⟨below_one h.below m h.lo2, h.one.one m h.ne, nb, h.ne, h.lo, h.lo2⟩
end
theorem alloc_agg {t : TypeId} {cs : Array Value} (h : (Try.prog.info? t).bind (·.zero) = some (.agg cs)) (W : World) : (Instr.alloc t true (.tuple #[])).run Try.prog W = .ok (.pointer (some ⟨W.heap.size, 0, none⟩)) (W.alloc (.cells cs t (0, 0))) := by
  cases hi : Try.prog.info? t with
  | none => rw [hi] at h; cases h
  | some i =>
    rw [hi] at h
    have hz : i.zero = some (.agg cs) := h
    simp [Instr.alloc, zeroValue, typeInfo, hi, hz, newVar, newRow, newObj, Result.andThen, Value.cells, go_sem]
    rfl
theorem zero_inst : (Try.prog.info? 41).bind (·.zero) = some (.agg #[.int .i64 0, .int .i64 0, .int .i64 0, .int .i64 0, .int .i64 0, .int .i64 0, .int .i64 0, .bool false]) := by kernel_rfl
theorem size_inst : (Try.prog.info? 41).map (·.size) = some 8 := by kernel_rfl
theorem pl_int : Step.plainT Try.prog 3 = true := by kernel_rfl
theorem pl_bool : Step.plainT Try.prog 4 = true := by kernel_rfl
theorem results_row_tmp {P : Program} {fn : Func} {p u : Tmp} {ty : TypeId} (h : fn.results = #[.cell p ty, .tmp u]) (tmps : Array Value) (w : World) (g : Nat) (t : TypeId) (cs : Array Value) (d : TypeDesc)
    (hp : tmps.getD p undef = .pointer (some ⟨g, 0, none⟩)) (hg : Blk w g cs t) (hu : P.underlying ty = some d) (hd : (match d with | .struct _ | .array _ _ => true | _ => false) = true) (hi : (P.info? ty).map (·.size) = some cs.size) :
    (results fn tmps).run P w = .ok (.tuple #[.agg cs, tmps.getD u undef]) w := by
  rw [results_cell_tmp h, hp]
  have h2 := run_loadVar_row (P := P) w g t ty cs (0, 0) d hg.out hu hd hi
  simp [asAddr, Result.andThen, h2]
theorem results_row {P : Program} {fn : Func} {p : Tmp} {ty : TypeId} (h : fn.results = #[.cell p ty]) (tmps : Array Value) (w : World) (g : Nat) (t : TypeId) (cs : Array Value) (d : TypeDesc)
    (hp : tmps.getD p undef = .pointer (some ⟨g, 0, none⟩)) (hg : Blk w g cs t) (hu : P.underlying ty = some d) (hd : (match d with | .struct _ | .array _ _ => true | _ => false) = true) (hi : (P.info? ty).map (·.size) = some cs.size) :
    (results fn tmps).run P w = .ok (.agg cs) w := results_cell_row h tmps w g t cs (0, 0) d hp hg.out hu hd hi
theorem fd_lit {a : Int} {h l : Nat} {n : Int} (hn : n = (2 ^ (h - l + 1) : Nat)) : 0 ≤ fd a h l ∧ fd a h l < n := by subst hn; exact fd_bd a h l
theorem small {x n : Int} (h : 0 ≤ x ∧ x < n) (hn : n ≤ 9223372036854775808) : -9223372036854775808 ≤ x ∧ x < 9223372036854775808 := by omega
end Go.Proofs.Ytecpkipgkaaefaa.Enc
end
