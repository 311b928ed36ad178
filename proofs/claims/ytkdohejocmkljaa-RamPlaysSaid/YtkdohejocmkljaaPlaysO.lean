/- A script, as an argument: a slice of calls, each with its bytes. -/
import Derived.Test.YtkdohejocmkljaaLend
import Derived.Test.YtkdohejocmkljaaOpenB
import Derived.Deep.Slices
import Derived.ChangeArms
import Derived.SizedLaws
namespace Go.Proofs.Ytkdohejocmkljaa.Mem
open Go Go.RowKit Go.ChangeShapes Go.WideShapes Go.ChangeAt Go.Proofs.Ytkdohejocmkljaa.Step
set_option linter.unusedVariables false
set_option linter.unusedSimpArgs false
set_option maxRecDepth 100000

/-- A call of a script. -/
structure OpD where
  kind : Int
  size : Int
  addr : Int
  v : Int
  near : Bool
  A : Option Addr
  bl : Nat
  bc : Nat
  bf : Nat → Int
instance : Inhabited OpD := ⟨⟨0, 0, 0, 0, false, none, 0, 0, fun _ => 0⟩⟩
/-- Its six cells. -/
def OpD.cells (o : OpD) : Array Value := #[.int .i64 o.kind, .int .i64 o.size, .int .u64 o.addr, .int .u64 o.v, .bool o.near, .slice o.A o.bl o.bc]
structure OpOk (W : World) (o : OpD) : Prop where
  kind : -9223372036854775808 ≤ o.kind ∧ o.kind < 9223372036854775808
  size : -9223372036854775808 ≤ o.size ∧ o.size < 9223372036854775808
  addr : 0 ≤ o.addr ∧ o.addr < 18446744073709551616
  v : 0 ≤ o.v ∧ o.v < 18446744073709551616
  rd : Rd W o.A o.bl o.bf (· < W.heap.size)
  nil_ : o.A = none → o.bl = 0 ∧ o.bc = 0
  len : o.bl ≤ 140737488355328
/-- A slice of calls. -/
def RdS (W : World) (B : Option Addr) (n : Nat) (f : Nat → OpD) : Prop :=
  ∀ i, i < n → ∃ ad, B = some ad ∧ ad.block < W.heap.size ∧ (∀ j v, (f i).cells[j]? = some v → W.cell? ((ad.add (i * 6)).add j) = some v) ∧ OpOk W (f i)
theorem co_op : Try.prog.cellsOf 58 = 6 := by kernel_rfl
theorem co_int : Try.prog.cellsOf 3 = 1 := by kernel_rfl
theorem co_u64 : Try.prog.cellsOf 22 = 1 := by kernel_rfl
theorem co_bool : Try.prog.cellsOf 4 = 1 := by kernel_rfl
theorem co_bytes : Try.prog.cellsOf 35 = 1 := by kernel_rfl
theorem co_u8 : Try.prog.cellsOf 5 = 1 := by kernel_rfl
theorem by_u8 : Try.prog.bytesOf 5 = 1 := by kernel_rfl
theorem u64w {v : Int} (h : (Lit.int .u64 v).wf = true) : 0 ≤ v ∧ v < 18446744073709551616 := by have := bounds_u64 h; exact ⟨by omega, by omega⟩
theorem i64w {v : Int} (h : (Lit.int .i64 v).wf = true) : -9223372036854775808 ≤ v ∧ v < 9223372036854775808 := by have := bounds_i64 h; exact ⟨by omega, by omega⟩
section
variable {H : Type} {enc : TypeId × Value → H} {W : World} {base : Nat} {sp : Nat → Bool} {held : Bool}
/-- One call, opened. -/
theorem open_op {fuel : Nat} {cs : List Value} {x : DataW H × List MemPlace} (h : DataW.trod enc Try.prog W base sp held fuel 58 cs = some x) (hw : ∀ n ∈ x.1.weights Try.prog 58, n ≤ reachBytes) :
    ∃ o : OpD, cs = o.cells.toList ∧ OpOk W o := by
  obtain ⟨xs, n, _, hx, hl, hxl, hf⟩ := DataW.trod_struct Try.underlying58 h
  rw [co_op] at hl
  match xs, hxl, cs, hl with
  | [y0, y1, y2, y3, y4, y5], _, [a0, a1, a2, a3, a4, a5], _ =>
    have g0 : DataW.trod enc Try.prog W base sp held n 3 [a0] = some y0 := by simpa [co_int] using hf 0 _ rfl
    have g1 : DataW.trod enc Try.prog W base sp held n 3 [a1] = some y1 := by simpa [co_int] using hf 1 _ rfl
    have g2 : DataW.trod enc Try.prog W base sp held n 22 [a2] = some y2 := by simpa [co_u64] using hf 2 _ rfl
    have g3 : DataW.trod enc Try.prog W base sp held n 22 [a3] = some y3 := by simpa [co_u64] using hf 3 _ rfl
    have g4 : DataW.trod enc Try.prog W base sp held n 4 [a4] = some y4 := by simpa [co_bool] using hf 4 _ rfl
    have g5 : DataW.trod enc Try.prog W base sp held n 35 [a5] = some y5 := by simpa [co_bytes] using hf 5 _ rfl
    obtain ⟨n0, e0, _, w0⟩ := DataW.trod_int Try.underlying3 g0
    obtain ⟨n1, e1, _, w1⟩ := DataW.trod_int Try.underlying3 g1
    obtain ⟨n2, e2, _, w2⟩ := DataW.trod_int Try.underlying22 g2
    obtain ⟨n3, e3, _, w3⟩ := DataW.trod_int Try.underlying22 g3
    obtain ⟨n4, e4, _⟩ := DataW.trod_bool Try.underlying4 g4
    simp only [List.cons.injEq, and_true] at e0 e1 e2 e3 e4
    have hd : x.1 = .agg [y0.1, y1.1, y2.1, y3.1, y4.1, y5.1] := by rw [hx]; rfl
    have hw5 : ∀ k ∈ y5.1.weights Try.prog 35, k ≤ reachBytes := fun k hk => hw k (by
      rw [hd]
      simp [DataW.weights, DataW.weightsEach, Try.underlying58, hk])
    rcases open_ints Try.underlying35 Try.underlying5 co_u8 g5 with ⟨e5, _⟩ | ⟨ad, l, c, zs, e5, hb, hlc, hm, hz, hy, hc, hwf⟩
    · simp only [List.cons.injEq, and_true] at e5
      exact ⟨⟨n0, n1, n2, n3, n4, none, 0, 0, fun _ => 0⟩, by rw [e0, e1, e2, e3, e4, e5]; rfl, i64w w0, i64w w1, u64w w2, u64w w3, fun i hi => absurd hi (Nat.not_lt_zero i), fun _ => ⟨rfl, rfl⟩, Nat.zero_le _⟩
    · simp only [List.cons.injEq, and_true] at e5
      have hln : l ≤ zs.length := by rw [hz]; split <;> omega
      refine ⟨⟨n0, n1, n2, n3, n4, some ad, l, c, fun i => zs.getD i 0⟩, by rw [e0, e1, e2, e3, e4, e5]; rfl, i64w w0, i64w w1, u64w w2, u64w w3, fun i hi => ?_, (fun h => by cases h), ?_⟩
      · have hi' : i < zs.length := Nat.lt_of_lt_of_le hi hln
        refine ⟨ad, rfl, ?_, hc i hi', u8_bd (hwf _ ?_)⟩
        · have := World.block_lt_of_cell? W _ (hc i hi')
          rwa [Mem.block_add] at this
        · show zs.getD i 0 ∈ zs
          rw [List.getD_eq_getElem?_getD, List.getElem?_eq_getElem hi']; exact List.getElem_mem _
      · have h1 : ((lits (H := H) .u8 (zs.take l)).length + (lits (H := H) .u8 (zs.drop l)).length) * Try.prog.bytesOf 5 ≤ reachBytes := hw5 _ (by
          rw [hy]
          simp only [DataW.weights, Try.underlying35]
          exact List.mem_cons_self)
        rw [by_u8] at h1
        have h2 : (lits (H := H) .u8 (zs.take l)).length = l := by simp [lits]; omega
        rw [h2] at h1
        show l ≤ 140737488355328
        unfold reachBytes at h1
        omega
theorem weights_all {e : TypeId} : ∀ (ds : List (DataW H)) (d : DataW H), d ∈ ds → ∀ n ∈ d.weights Try.prog e, n ∈ DataW.weightsAll Try.prog e ds
  | [], d, h, _, _ => by cases h
  | a :: r, d, h, n, hn => by
    rw [DataW.weightsAll]
    rcases List.mem_cons.1 h with rfl | h
    · exact List.mem_append_left _ hn
    · exact List.mem_append_right _ (weights_all r d h n hn)
/-- A script, opened. -/
theorem open_script {B : Option Addr} {n c : Nat} {d : DataW H} {ps : List MemPlace} (h : DataW.Trod enc Try.prog W base sp held 50 (.slice B n c) d ps) (hw : ∀ k ∈ d.weights Try.prog 50, k ≤ reachBytes) :
    ∃ f, RdS W B n f ∧ n * 58 ≤ 140737488355328 * 58 ∧ n ≤ 9223372036854775807 := by
  obtain ⟨fuel, hf⟩ := h
  rcases Go.Deep.open_slice Try.underlying50 hf with ⟨e, _⟩ | ⟨ad, l, cp, m, n', D, Pl, e, hb, hl, hm, hmm, hy, hx⟩
  · simp [Value.cells] at e
    obtain ⟨rfl, rfl, rfl⟩ := e
    exact ⟨fun _ => ⟨0, 0, 0, 0, false, none, 0, 0, fun _ => 0⟩, fun i hi => absurd hi (Nat.not_lt_zero i), by omega, by omega⟩
  · simp [Value.cells] at e
    obtain ⟨rfl, rfl, rfl⟩ := e
    have hlm : n ≤ m := by rw [hmm]; split <;> omega
    have hwi : ∀ i, i < n → ∀ k ∈ (D i).weights Try.prog 58, k ≤ reachBytes := fun i hi k hk => hw k (by
      have hd : d = _ := congrArg Prod.fst hy
      rw [hd]
      have : k ∈ DataW.weightsAll Try.prog 58 ((List.range n).map D) := weights_all _ (D i) (List.mem_map.2 ⟨i, List.mem_range.2 hi, rfl⟩) k hk
      simp [DataW.weights, Try.underlying50, this])
    have each : ∀ i, i < n → ∃ o : OpD, (∀ j v, o.cells[j]? = some v → W.cell? ((ad.add (i * 6)).add j) = some v) ∧ OpOk W o := fun i hi => by
      obtain ⟨cs', h1, h2⟩ := hx i (by omega)
      rw [co_op] at h1
      obtain ⟨_, hlen, hcell⟩ := World.cells?_some h1
      obtain ⟨o, rfl, hok⟩ := open_op h2 (hwi i hi)
      refine ⟨o, fun j v hv => ?_, hok⟩
      have hj : j < 6 := by have := (Array.getElem?_eq_some_iff.1 hv).1; exact this
      have := hcell j hj
      rw [this]
      simpa using hv
    obtain ⟨f, hf⟩ := Go.Deep.choose_lt each
    refine ⟨f, fun i hi => ⟨ad, rfl, ?_, (hf i hi).1, (hf i hi).2⟩, ?_, by unfold maxLen at hm; omega⟩
    · have h0 := (hf i hi).1 0 _ rfl
      have := World.block_lt_of_cell? W _ h0
      rwa [Mem.block_add, Mem.block_add] at this
    · skip
      have hd : d = _ := congrArg Prod.fst hy
      have h1 := hw ((((List.range n).map D).length + ((List.range (m - n)).map fun j => D (n + j)).length) * Try.prog.bytesOf 58) (by
        rw [hd]
        simp [DataW.weights, Try.underlying50])
      simp only [List.length_map, List.length_range] at h1
      have hb : Try.prog.bytesOf 58 = 64 := by kernel_rfl
      rw [hb] at h1
      unfold reachBytes at h1
      omega
end
end Go.Proofs.Ytkdohejocmkljaa.Mem
