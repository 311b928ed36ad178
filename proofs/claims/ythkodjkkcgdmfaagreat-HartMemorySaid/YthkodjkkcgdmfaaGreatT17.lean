/- Parts of the walks and laws for the claim: Memory, MemoryB, LendA, New, Dk, Both; no conditions beyond the theorems' own. -/
import Derived.Below
import Derived.ChangeSlices
import Derived.Deep.RegionHeld3
import Derived.Laws.AppendOwn
import Derived.Laws.OwnMore
import Derived.Laws.ResultCell
import Derived.OpenShut
import Derived.ProofKit
import Derived.RowKit
import Derived.WalkKit
import Derived.Test.YthkodjkkcgdmfaaGreatT15
import Derived.Test.YthkodjkkcgdmfaaGreatT16
section
namespace Go.Proofs.YthkodjkkcgdmfaaGreat.Duo
open Go Go.RowKit Go.Proofs.YthkodjkkcgdmfaaGreat.Step Go.Proofs.YthkodjkkcgdmfaaGreat.Mem
set_option linter.unusedVariables false
set_option linter.unusedSimpArgs false
set_option maxRecDepth 100000
/-- A memory and the document's, of one content, in blocks newer than W. -/
structure Duo (W w : World) (h1 h2 : Nat) (base : Int) (n : Nat) (mem : Nat → Int) (F1 F2 : Nat → Prop) : Prop where
  one : Ram w h1 base n mem F1
  two : Ref.Mem w h2 base n mem F2
  apart : ∀ k, F1 k → ¬ F2 k
  new : ∀ k, F1 k ∨ F2 k → W.heap.size ≤ k
  mod : Mod Nil W w
section
variable {W w w' : World} {h1 h2 n : Nat} {base : Int} {mem mem' : Nat → Int} {F1 F2 S : Nat → Prop}
theorem Duo.below (d : Duo W w h1 h2 base n mem F1 F2) (b : Below w.heap.size w w') : Duo W w' h1 h2 base n mem F1 F2 :=
  ⟨d.one.below b, d.two.below b, d.apart, d.new, d.mod.trans (Mod.of_below b Nil)⟩
theorem Duo.drawn (d : Duo W w h1 h2 base n mem F1 F2) (b : ∃ k, w' = w.drewN k) : Duo W w' h1 h2 base n mem F1 F2 := d.below (below_drawn b)
theorem Duo.out (d : Duo W w h1 h2 base n mem F1 F2) : Below W.heap.size W w := d.mod.below
/-- Something newer beside them is turned. -/
theorem Duo.other (d : Duo W w h1 h2 base n mem F1 F2) (m : Mod S w w') (hs : ∀ k, F1 k ∨ F2 k → ¬ S k) (hn : ∀ k, S k → W.heap.size ≤ k) : Duo W w' h1 h2 base n mem F1 F2 :=
  ⟨d.one.mod m fun k h => hs k (.inl h), d.two.mod m fun k h => hs k (.inr h), d.apart, d.new, d.mod.trans_new m fun i hi h => by have := hn i h; omega⟩
theorem Duo.bound (d : Duo W w h1 h2 base n mem F1 F2) : ∀ k, F1 k ∨ F2 k → k < w.heap.size := fun k h => h.elim (d.one.bound k) (d.two.bound k)
theorem Duo.made {w1 w2 : World} (m0 : Mod Nil W w) (r1 : Ram w1 h1 base n mem (Grow Nil w w1)) (m1 : Mod Nil w w1) (r2 : Ref.Mem w2 h2 base n mem (Grow Nil w1 w2)) (m2 : Mod Nil w1 w2) : Duo W w2 h1 h2 base n mem (Grow Nil w w1) (Grow Nil w1 w2) :=
  ⟨r1.mod m2 (fun _ _ h => h), r2, fun k h1 h2 => by
      have := r1.bound k h1
      rcases h2 with h2 | h2
      · exact h2
      · omega, fun k h => by
      have := m0.size
      have := m1.size
      rcases h with (h | h) | (h | h)
      · exact h.elim
      · omega
      · exact h.elim
      · omega, (m0.trans m1).trans m2⟩
/-- The first is turned, then the second. -/
theorem Duo.step {w1 w2 : World} (d : Duo W w h1 h2 base n mem F1 F2) (r1 : Ram w1 h1 base n mem' (Grow F1 w w1)) (m1 : Mod F1 w w1) (r2 : Ref.Mem w2 h2 base n mem' (Grow F2 w1 w2)) (m2 : Mod F2 w1 w2) : Duo W w2 h1 h2 base n mem' (Grow F1 w w1) (Grow F2 w1 w2) :=
  ⟨r1.mod m2 (fun k a b => by
      have := d.two.bound k b
      rcases a with a | a
      · exact d.apart k a b
      · omega), r2, fun k a b => by
      have hb := r1.bound k a
      rcases a with a | a <;> rcases b with b | b
      · exact d.apart k a b
      · omega
      · have := d.two.bound k b; omega
      · omega, fun k h => by
      have := d.mod.size
      have := m1.size
      rcases h with (h | h) | (h | h)
      · exact d.new k (.inl h)
      · omega
      · exact d.new k (.inr h)
      · omega, (d.mod.trans_new m1 fun i hi h => by have := d.new i (.inl h); omega).trans_new m2 fun i hi h => by have := d.new i (.inr h); omega⟩
end
theorem write_z {W : World} {h n : Nat} {base : Int} {mem : Nat → Int} {F : Nat → Prop} (r : Ram W h base n mem F) (addr v z : Int) (s : Nat) (hz : z = s) (ha : 0 ≤ addr ∧ addr < 18446744073709551616) (hv : 0 ≤ v ∧ v < 18446744073709551616) (h1 : wholeB s = true) (h2 : hasB base n addr s = true) :
    Calls Tryz.prog 46 #[.pointer (some ⟨h, 0, none⟩), .int .u64 addr, .int .i64 z, .int .u64 v] W fun e W' => e = .returned (.bool true) ∧ Ram W' h base n (wr mem (addr - base).toNat s v) (Grow F W W') ∧ Mod F W W' := by subst hz; exact write_yes r addr v s ha hv h1 h2
theorem rwrite_z {W : World} {h n : Nat} {base : Int} {mem : Nat → Int} {F : Nat → Prop} (r : Ref.Mem W h base n mem F) (addr v z : Int) (s : Nat) (hz : z = s) (ha : 0 ≤ addr ∧ addr < 18446744073709551616) (hv : 0 ≤ v ∧ v < 18446744073709551616) (h1 : wholeB s = true) (h2 : hasB base n addr s = true) :
    Calls Tryz.prog 29 #[.pointer (some ⟨h, 0, none⟩), .int .u64 addr, .int .i64 z, .int .u64 v] W fun e W' => e = .returned (.bool true) ∧ Ref.Mem W' h base n (wr mem (addr - base).toNat s v) (Grow F W W') ∧ Mod F W W' := by subst hz; exact Ref.write_yes r addr v s ha hv h1 h2
set_option maxHeartbeats 1000000 in
theorem wboth {W w : World} {h1 h2 n : Nat} {base : Int} {mem : Nat → Int} {F1 F2 : Nat → Prop} (d : Duo W w h1 h2 base n mem F1 F2) (addr v : Int) (ha : 0 ≤ addr ∧ addr < 18446744073709551616) (hv : 0 ≤ v ∧ v < 18446744073709551616) (hh : hasB base n addr 8 = true) :
    Calls Tryz.prog 28 #[.agg #[.pointer (some ⟨h1, 0, none⟩), .pointer (some ⟨h2, 0, none⟩)], .int .u64 addr, .int .i64 8, .int .u64 v] w fun e w' => e = .returned (.tuple #[]) ∧ ∃ F1' F2', Duo W w' h1 h2 base n (wr mem (addr - base).toNat 8 v) F1' F2' ∧ (∀ k, k < w.heap.size → F1' k → F1 k) ∧ (∀ k, k < w.heap.size → F2' k → F2 k) ∧ Mod (fun k => F1 k ∨ F2 k) w w' := by
  have D := Lib.hid d
  have P1 := Lib.hid (fun (w1 : World) (r : Ram w1 h1 base n mem F1) => write_z r addr v 8 8 rfl ha hv (by decide) hh)
  have P2 := Lib.hid (fun (w1 : World) (r : Ref.Mem w1 h2 base n mem F2) => rwrite_z r addr v 8 8 rfl ha hv (by decide) hh)
  have hu := Tryz.underlying40
  clear d ha hv hh
  go_enter Tryz.func28, Tryz.ntmps28
  go_wp2_with (first
    | ((with_reducible refine Step.gate_box (t := 40) rfl ?_); refine Step.fresh (cs := #[.pointer (some ⟨h1, 0, none⟩), .pointer (some ⟨h2, 0, none⟩)]) (T := 40) rfl ?hr ?_; (case hr => first | (go_simp; done) | (go_simp; rfl)); intro g w2 b hg hb; have c0 := b.cell 0; have B := Lib.hid b; have D2 := Lib.hid (D.out.below hb); have HB := Lib.hid hb; have HG := Lib.hid hg; simp only [List.getElem?_toArray, List.getElem?_cons_zero] at c0; clear b hg hb)
    | (go_at_call 46; refine (P1.out _ D2.out.one).mono ?_; rintro e w3 ⟨rfl, r, m⟩; have R1 := Lib.hid r; have M1 := Lib.hid m; have c1 := (((B.out.mod m (fun hf => by have := D.out.bound g (.inl hf); have := HG.out; omega)).cell 1)); have r2 := Lib.hid (D2.out.two.mod m (fun k h2 h1 => D.out.apart k h1 h2)); simp only [List.getElem?_toArray, List.getElem?_cons_zero, List.getElem?_cons_succ] at c1; clear r m)
    | (go_at_call 29; refine (P2.out _ r2.out).mono ?_; rintro e w4 ⟨rfl, r, m⟩; have R2 := Lib.hid r; have M2 := Lib.hid m; clear r m))
  go_end0
  have dd := D2.out.step R1.out M1.out R2.out M2.out
  have hs := HB.out.size
  refine ⟨rfl, _, _, dd, fun k hk h => h.elim id fun h => by omega, fun k hk h => h.elim id fun h => by have := M1.out.size; omega, ?_⟩
  refine ((Mod.of_below HB.out _).trans (M1.out.mono fun k _ h => .inl h)).trans (M2.out.mono fun k _ h => .inr h)
end Go.Proofs.YthkodjkkcgdmfaaGreat.Duo
end
section
namespace Go.Proofs.YthkodjkkcgdmfaaGreat.Duo
open Go Go.RowKit Go.Proofs.YthkodjkkcgdmfaaGreat.Step Go.Proofs.YthkodjkkcgdmfaaGreat.Mem
set_option linter.unusedVariables false
set_option linter.unusedSimpArgs false
set_option maxRecDepth 100000
/-- A slice's cells: the place and the number of each. -/
def RdC (W : World) (A : Option Addr) (n : Nat) (f : Nat → Int × Int) (G : Nat → Prop) : Prop :=
  ∀ i, i < n → ∃ ad, A = some ad ∧ G ad.block ∧ W.cell? (ad.add (i * 2)) = some (.int .i64 (f i).1) ∧ W.cell? (ad.add (i * 2 + 1)) = some (.int .u64 (f i).2) ∧ (-9223372036854775808 ≤ (f i).1 ∧ (f i).1 < 9223372036854775808) ∧ (0 ≤ (f i).2 ∧ (f i).2 < 18446744073709551616)
/-- What a memory of so many frames holds when cells have been written into it. -/
def cm (n : Nat) (f : Nat → Int × Int) : Nat → Nat → Int
  | 0 => fun _ => 0
  | k + 1 => wr (cm n f k) (8 * ((f k).1 % ((512 * n : Nat) : Int))).toNat 8 (f k).2
theorem block_add (a : Addr) (k : Nat) : (a.add k).block = a.block := by unfold Addr.add; split <;> rfl
theorem addr_snd (a : Addr) (m : Nat) : (⟨(a.add m).block, (a.add m).off + 1, none⟩ : Addr) = a.add (m + 1) := by
  unfold Addr.add
  by_cases h : m = 0 <;> simp [h, Nat.add_assoc]
theorem RdC.mod {W W' : World} {A : Option Addr} {n : Nat} {f : Nat → Int × Int} {G S : Nat → Prop} (r : RdC W A n f G) (m : Mod S W W') (hs : ∀ k, G k → ¬ S k) (hG : ∀ k, G k → k < W.heap.size) : RdC W' A n f G := fun i hi => by
  obtain ⟨ad, e, g, h0, h1, h2⟩ := r i hi
  exact ⟨ad, e, g, (World.cell?_of_block (m.block _ (by rw [block_add]; exact hG _ g) (by rw [block_add]; exact hs _ g))).trans h0, (World.cell?_of_block (m.block _ (by rw [block_add]; exact hG _ g) (by rw [block_add]; exact hs _ g))).trans h1, h2⟩
theorem RdC.wide {W : World} {A : Option Addr} {n : Nat} {f : Nat → Int × Int} {G G' : Nat → Prop} (r : RdC W A n f G) (h : ∀ k, G k → G' k) : RdC W A n f G' := fun i hi => by
  obtain ⟨ad, e, g, h2⟩ := r i hi
  exact ⟨ad, e, h _ g, h2⟩
/-- The eight bytes of a number, written. -/
def wr_ (mem : Nat → Int) (o : Nat) (v : Int) : Nat → Int := wr mem o 8 v
theorem results_row_tmp {P : Program} {fn : Func} {p u : Tmp} {ty : TypeId} (h : fn.results = #[.cell p ty, .tmp u]) (tmps : Array Value) (w : World) (g : Nat) (t : TypeId) (cs : Array Value) (d : TypeDesc)
    (hp : tmps.getD p undef = .pointer (some ⟨g, 0, none⟩)) (hg : Blk w g cs t) (hu : P.underlying ty = some d) (hd : (match d with | .struct _ | .array _ _ => true | _ => false) = true) (hi : (P.info? ty).map (·.size) = some cs.size) :
    (results fn tmps).run P w = .ok (.tuple #[.agg cs, tmps.getD u undef]) w := by
  rw [results_cell_tmp h, hp]
  have h2 := run_loadVar_row (P := P) w g t ty cs (0, 0) d hg.out hu hd hi
  simp [asAddr, Result.andThen, h2]
theorem zero_two : (Tryz.prog.info? 40).bind (·.zero) = some (.agg #[.pointer none, .pointer none]) := by kernel_rfl
theorem alloc_agg {t : TypeId} {cs : Array Value} (h : (Tryz.prog.info? t).bind (·.zero) = some (.agg cs)) (W : World) : (Instr.alloc t true (.tuple #[])).run Tryz.prog W = .ok (.pointer (some ⟨W.heap.size, 0, none⟩)) (W.alloc (.cells cs t (0, 0))) := by
  cases hi : Tryz.prog.info? t with
  | none => rw [hi] at h; cases h
  | some i =>
    rw [hi] at h
    have hz : i.zero = some (.agg cs) := h
    simp [Instr.alloc, zeroValue, typeInfo, hi, hz, newVar, newRow, newObj, Result.andThen, Value.cells, go_sem]
    rfl
theorem new_z (w : World) (base z : Int) (n : Nat) (hz : z = n) (hb : 0 ≤ base ∧ base < 18446744073709551616) (h : newB base n = true) :
    Calls Tryz.prog 55 #[.int .u64 base, .int .i64 z] w fun e W' => ∃ h, e = .returned (.tuple #[.pointer (some ⟨h, 0, none⟩), .int .i64 0]) ∧ Ram W' h base n (fun _ => 0) (Grow Nil w W') ∧ Mod Nil w W' := by subst hz; exact new_yes w base n hb h
theorem rnew_z (w : World) (base z : Int) (n : Nat) (hz : z = n) (hb : 0 ≤ base ∧ base < 18446744073709551616) (h : newB base n = true) :
    Calls Tryz.prog 56 #[.int .u64 base, .int .i64 z] w fun e W' => ∃ h, e = .returned (.tuple #[.pointer (some ⟨h, 0, none⟩), .int .i64 0]) ∧ Ref.Mem W' h base n (fun _ => 0) (Grow Nil w W') ∧ Mod Nil w W' := by subst hz; exact Ref.new_yes w base n hb h
theorem size_two : (Tryz.prog.info? 40).map (·.size) = some 2 := by kernel_rfl
set_option maxHeartbeats 4000000 in
theorem memory_any (W : World) (base z : Int) (n : Nat) (hz : z = n) (hb : 0 ≤ base ∧ base < 18446744073709551616) (hn : newB base n = true) (A : Option Addr) (len cap : Nat) (f : Nat → Int × Int) (r : RdC W A len f (· < W.heap.size)) (hl : len ≤ 9223372036854775807) :
    Calls Tryz.prog 35 #[.int .u64 base, .int .i64 z, .slice A len cap] W fun e w' => ∃ h1 h2 F1 F2, e = .returned (.tuple #[.agg #[.pointer (some ⟨h1, 0, none⟩), .pointer (some ⟨h2, 0, none⟩)], .bool true]) ∧ Duo W w' h1 h2 base n (cm n f len) F1 F2 := by
  obtain ⟨n1, n2, nb, b2⟩ := of_decide_eq_true hn
  obtain ⟨b0, b1⟩ := hb
  have T1 := Lib.hid (fun w => new_z w base z n hz ⟨b0, b1⟩ hn)
  have T2 := Lib.hid (fun w => rnew_z w base z n hz ⟨b0, b1⟩ hn)
  have R := Lib.hid r
  have Z := Lib.hid hz
  have HL := Lib.hid hl
  have hu := Tryz.underlying40
  have w512 : IntKind.i64.wrap (512 * z) = 512 * n := by rw [hz]; exact IntWalk.i64_in _ (by omega)
  clear r hn hl hz nb
  go_enter Tryz.func35, Tryz.ntmps35
  go_wp2_with (first
    | ((with_reducible refine Step.gate_alloc (t := 40) rfl ?_); refine Step.freshAlloc rfl rfl (alloc_agg zero_two) ?_; (first
        | (have this := Lib.hid D0; intro g12 w4 b hg hb; have B12 := Lib.hid b; have B6c := Lib.hid (B6.out.below hb); have D1 := Lib.hid (D0.out.below hb); have HG12 := Lib.hid hg; clear b hg hb this)
        | (intro g6 w1 b hg hb; have B6a := Lib.hid b; have HB6 := Lib.hid hb; have HG6 := Lib.hid hg; clear b hg hb)))
    | (go_at_call 55; refine (T1.out _).mono ?_; rintro e w2 ⟨h1, rfl, r, m⟩; have R1 := Lib.hid r; have M1 := Lib.hid m; have B6b := Lib.hid (B6a.out.mod m (fun h => h)); clear r m)
    | (go_at_call 56; refine (T2.out _).mono ?_; rintro e w3 ⟨h2, rfl, r, m⟩; have D0 := Lib.hid (Duo.made (Mod.of_below HB6.out Nil) R1.out M1.out r m); have B6 := Lib.hid (B6b.out.mod m (fun h => h)); have L6 := Lib.hid (show ∀ k, Grow Nil w1 w2 k ∨ Grow Nil w2 w3 k → k ≠ g6 from fun k h e => by subst e; have := B6a.out.lt; have := M1.out.size; rcases h with (h | h) | (h | h) <;> first | exact h | omega); clear r m)
    | ((with_reducible refine Step.gate_store (t := 40) rfl ?_); refine Step.storeAll (vs := #[.pointer (some ⟨h1, 0, none⟩), .pointer (some ⟨h2, 0, none⟩)]) B12.out rfl rfl rfl rfl rfl size_two rfl rfl ?_; intro w5 nb m; have N12 := Lib.hid nb; have N6 := Lib.hid (B6c.out.one m (by have := B6.out.lt; have := HG12.out; omega)); have D2 := Lib.hid (D1.out.other m (fun k h e => by obtain rfl : k = g12 := e; have := D0.out.bound k h; have := HG12.out; omega) (fun k e => by obtain rfl : k = g12 := e; have := HG12.out; have := D0.out.mod.size; omega)); have L12 := Lib.hid (show ∀ k, Grow Nil w1 w2 k ∨ Grow Nil w2 w3 k → k ≠ g12 from fun k h e => by subst e; have := D0.out.bound k h; have := HG12.out; omega); clear nb m))
  have G12 := Lib.hid (show W.heap.size ≤ g12 from by have := HG12.out; have := D0.out.mod.size; omega)
  have NE := Lib.hid (show g6 ≠ g12 from by have := B6.out.lt; have := HG12.out; omega)
  obtain ⟨F1, F2, hD, hL6, hL12⟩ : ∃ F1 F2, Duo W w5 h1 h2 base n (cm n f 0) F1 F2 ∧ (∀ k, F1 k ∨ F2 k → k ≠ g6) ∧ (∀ k, F1 k ∨ F2 k → k ≠ g12) := ⟨_, _, D2.out, L6.out, L12.out⟩
  have DD := Lib.hid hD
  have LL6 := Lib.hid hL6
  have LL12 := Lib.hid hL12
  clear hD hL6 hL12 D0 D1 D2 L6 L12 R1 M1 B6 B6a B6b B6c B12 HG12 HB6
  go_loopw [13] (fun i w => ∃ k : Nat, k ≤ len ∧ i = .int .i64 k ∧ Blk w g12 #[.pointer (some ⟨h1, 0, none⟩), .pointer (some ⟨h2, 0, none⟩)] 40 ∧ Blk w g6 #[.pointer none, .pointer none] 40 ∧ ∃ F1 F2, Duo W w h1 h2 base n (cm n f k) F1 F2 ∧ (∀ k, F1 k ∨ F2 k → k ≠ g6) ∧ (∀ k, F1 k ∨ F2 k → k ≠ g12)) (fun i _ => (len - intOf i).toNat)
  case atStart => exact ⟨0, Nat.zero_le _, rfl, N12.out, N6.out, F1, F2, DD.out, LL6.out, LL12.out⟩
  case round =>
    clear DD LL6 LL12 N12 N6 F1 F2
    obtain ⟨k, hk, rfl, hB12, hB6, F1, F2, hD, hL6, hL12⟩ := hrel
    have DK := Lib.hid hD
    have K12 := Lib.hid hB12
    have K6 := Lib.hid hB6
    have LK6 := Lib.hid hL6
    have LK12 := Lib.hid hL12
    clear hD hB12 hB6 hL6 hL12
    by_cases hlt : k < len
    · obtain ⟨ad, rfl, hab, hc0, hc1, hv0, hv1⟩ := (R.out.mod DK.out.mod (fun k hk h => h) (fun k hk => hk)) k hlt
      obtain ⟨q, hq⟩ := Int.eq_ofNat_of_zero_le (show 0 ≤ (f k).1 % ((512 * n : Nat) : Int) from Int.emod_nonneg _ (by omega))
      have hq2 : (q : Int) < 512 * n := by have := Int.emod_lt_of_pos (f k).1 (show (0 : Int) < ((512 * n : Nat) : Int) by omega); omega
      have TP := Lib.hid (fun w => (place_any (f k).1 (512 * n) (by omega) hv0 (by omega) w).mono fun e w' h => (by rw [show (512 * n : Int) = ((512 * n : Nat) : Int) by omega, hq] at h; exact h : e = .returned (.int .i64 q) ∧ w = w'))
      have q1 : IntKind.u64.wrap (q : Int) = q := IntWalk.u64_in _ (by omega)
      have q2 : IntKind.u64.wrap (8 * (q : Int)) = 8 * q := IntWalk.u64_in _ (by omega)
      have q3 : IntKind.u64.wrap (base + 8 * (q : Int)) = base + 8 * q := IntWalk.u64_in _ (by omega)
      have TW := Lib.hid (fun w (hw : Below wr.heap.size wr w) => wboth (DK.out.below hw) (base + 8 * q) (f k).2 (by omega) hv1 (decide_eq_true (by omega)))
      have CM := Lib.hid (show cm n f (k + 1) = wr_ (cm n f k) (base + 8 * q - base).toNat (f k).2 from by show Mem.wr (cm n f k) (8 * ((f k).1 % ((512 * n : Nat) : Int))).toNat 8 (f k).2 = _; rw [hq]; unfold wr_; congr 1; omega)
      have LB := Lib.hid (show ad.block < wr.heap.size from by have := DK.out.mod.size; omega)
      have NA := Lib.hid (show ¬ (F1 ad.block ∨ F2 ad.block) from fun h => by have := DK.out.new _ h; omega)
      generalize (f k).1 = v0 at hc0 TP hq
      generalize (f k).2 = v1 at hc1 TW CM
      have e1 : ad.add (k * 2) = (ad.add (k * 2)) := rfl
      rw [← addr_snd] at hc1
      have cB := K12.out.cell 0
      have cC := K12.out.cell 1
      simp only [List.getElem?_toArray, List.getElem?_cons_zero, List.getElem?_cons_succ] at cB cC
      clear hv0 hv1 hq hq2 e1
      go_wp2
      go_region_held3 (fun w' => w'.cell? ⟨g12, 0, none⟩ = some (.pointer (some ⟨h1, 0, none⟩)) ∧ w'.cell? ⟨g12, 1, none⟩ = some (.pointer (some ⟨h2, 0, none⟩)) ∧ w'.cell? (ad.add (k * 2)) = some (.int .i64 v0) ∧ w'.cell? ⟨(ad.add (k * 2)).block, (ad.add (k * 2)).off + 1, none⟩ = some (.int .u64 v1))
        (first
          | exact ⟨cB, cC, hc0, hc1⟩
          | exact ⟨(World.cell?_of_block (w := wr) (hm.block g12 K12.out.lt (fun h => LK12.out _ h rfl))).trans cB, (World.cell?_of_block (w := wr) (hm.block g12 K12.out.lt (fun h => LK12.out _ h rfl))).trans cC, (World.cell?_of_block (w := wr) (hm.block _ (by rw [block_add]; exact LB.out) (by rw [block_add]; exact NA.out))).trans hc0, (show w9.cell? ⟨(ad.add (k * 2)).block, (ad.add (k * 2)).off + 1, none⟩ = wr.cell? ⟨(ad.add (k * 2)).block, (ad.add (k * 2)).off + 1, none⟩ from World.cell?_of_block (hm.block (ad.add (k * 2)).block (by rw [block_add]; exact LB.out) (by rw [block_add]; exact NA.out))).trans hc1⟩)
        (first
          | ((with_reducible refine (TP.out _).mono ?_); rintro e w8 ⟨rfl, rfl⟩)
          | ((with_reducible refine (TW.out _ (Below.drew (Below.refl _ _))).mono ?_); rintro e w9 ⟨rfl, F1', F2', hd, hf1, hf2, hm⟩))
      rename_i hHeld
      have HM := Lib.hid (show Mod (fun k => F1 k ∨ F2 k) wr w9 from ⟨hm.os, hm.tape, hm.output, hm.size, hm.block⟩)
      have HD := Lib.hid hd
      have HF1 := Lib.hid hf1
      have HF2 := Lib.hid hf2
      clear hHeld hm hd hf1 hf2 cB cC hc0 hc1
      have hlen := HL.out
      go_wp2
      refine ⟨⟨k + 1, by omega, by go_num, K12.out.mod HM.out (fun h => LK12.out _ h rfl), K6.out.mod HM.out (fun h => LK6.out _ h rfl), F1', F2', CM.out ▸ HD.out, fun j h e => ?_, fun j h e => ?_⟩, by simp [intOf]; omega⟩
      · subst e
        exact LK6.out j (h.elim (fun h => .inl (HF1.out j K6.out.lt h)) fun h => .inr (HF2.out j K6.out.lt h)) rfl
      · subst e
        exact LK12.out j (h.elim (fun h => .inl (HF1.out j K12.out.lt h)) fun h => .inr (HF2.out j K12.out.lt h)) rfl
    · obtain rfl : k = len := by omega
      have cB := K12.out.cell 0
      have cC := K12.out.cell 1
      simp only [List.getElem?_toArray, List.getElem?_cons_zero, List.getElem?_cons_succ] at cB cC
      go_wp2_with (first
        | ((with_reducible refine Step.gate_store (t := 40) rfl ?_); refine Step.storeAll (vs := #[.pointer (some ⟨h1, 0, none⟩), .pointer (some ⟨h2, 0, none⟩)]) K6.out rfl rfl rfl rfl rfl size_two rfl rfl ?_; intro w7 nb m; have N6 := Lib.hid nb; have D7 := Lib.hid (DK.out.other m (fun k h e => LK6.out _ h e) (fun k e => by obtain rfl : k = g6 := e; exact HG6.out)); clear nb m))
      refine bodyPost_ret (results_row_tmp rfl _ _ g6 _ _ _ rfl N6.out hu rfl size_two) rfl ⟨h1, h2, F1, F2, rfl, D7.out⟩
end Go.Proofs.YthkodjkkcgdmfaaGreat.Duo
end
section
namespace Go.Proofs.YthkodjkkcgdmfaaGreat.Mem
open Go Go.RowKit Go.Proofs.YthkodjkkcgdmfaaGreat.Step
set_option linter.unusedVariables false
set_option linter.unusedSimpArgs false
set_option maxRecDepth 100000
/-- The bytes as a list of cells. -/
def lst (n : Nat) (f : Nat → Int) : List Value := (List.range n).map fun k => .int .u8 (f k)
theorem lst_len (n : Nat) (f : Nat → Int) : (lst n f).length = n := by simp [lst]
theorem lst_at (n : Nat) (f : Nat → Int) {k : Nat} (h : k < n) : (lst n f)[k]? = some (.int .u8 (f k)) := by simp [lst, h]
theorem lst_one (n : Nat) (f : Nat → Int) : ∀ u ∈ lst n f, u.oneCell' = true := by
  intro u hu
  obtain ⟨k, _, rfl⟩ := List.mem_map.1 hu
  rfl
theorem info_u8 : ∃ i, Tryz.prog.info? 5 = some i ∧ i.size = 1 ∧ i.bytes = 1 ∧ i.zero = some (.int .u8 0) := by
  have h := mk_u8
  cases hi : Tryz.prog.info? 5 with
  | none => rw [hi] at h; cases h
  | some i =>
    rw [hi] at h
    simp only [Option.map_some, Option.some.injEq, Prod.mk.injEq] at h
    exact ⟨i, rfl, h⟩
/-- An argument's bytes, nil or not. -/
structure Arg (W : World) (A : Option Addr) (n c : Nat) (f : Nat → Int) (G : Nat → Prop) : Prop where
  rd : Rd W A n f G
  nil_ : A = none → n = 0 ∧ c = 0
set_option maxHeartbeats 1000000 in
theorem copyBytes_any {W : World} {A : Option Addr} {n c : Nat} {f : Nat → Int} {G : Nat → Prop} (r : Arg W A n c f G) (hn : n ≤ 140737488355328) :
    Calls Tryz.prog 81 #[.slice A n c] W fun e W' => ∃ v, e = .returned v ∧ W'.ownsRow W.heap.size 5 1 v n (lst n f) ∧ Below W.heap.size W W' := by
  obtain ⟨i, hi, hs, hb, hz⟩ := info_u8
  have R := Lib.hid r
  have HI := Lib.hid hi
  have HS := Lib.hid hs
  have HB := Lib.hid hb
  have HZ := Lib.hid hz
  clear hi hs hb hz r
  cases A with
  | none =>
    obtain ⟨rfl, rfl⟩ := R.out.nil_ rfl
    go_enter Tryz.func81, Tryz.ntmps81
    go_wp2
    go_ret
    exact ⟨_, rfl, World.ownsRow_nil _ _ _ _, Below.refl _ _⟩
  | some ad =>
    go_enter Tryz.func81, Tryz.ntmps81
    go_wp2_with ((with_reducible refine wpList_append_own (w := W) rfl _ _ 66 rfl W.heap.size 5 i _ 1 1 Tryz.underlying66 HI.out HZ.out HS.out HB.out rfl (by omega) (.slice none 0 0) 0 [] rfl (World.ownsRow_nil _ _ _ _) ad n c (lst n f) rfl ?h1 ?h2 (lst_one _ _) ?h3 ?h4 (Nat.le_refl _) ?_); rotate_right; intro v' w' own' grow' hv; have OW := Lib.hid own'; have GR := Lib.hid grow'; clear own' grow' hv)
    case h1 => rw [lst_len, Nat.mul_one]
    case h2 =>
      intro j u hu
      have hj : j < n := by have := (List.getElem?_eq_some_iff.1 hu).1; rwa [lst_len] at this
      rw [lst_at n f hj] at hu
      obtain ⟨ad', e, _, hc, _⟩ := R.out.rd j hj
      obtain rfl := Option.some.inj e
      rw [hc]; exact hu
    case h3 => unfold maxLen; omega
    case h4 => omega
    go_ret
    refine ⟨_, rfl, ?_, (Below.refl _ _).grown GR.out (Nat.le_refl _) (fun k hk => by cases hk)⟩
    have := OW.out
    rwa [Nat.zero_add, List.nil_append] at this
end Go.Proofs.YthkodjkkcgdmfaaGreat.Mem
end
section
namespace Go.Proofs.YthkodjkkcgdmfaaGreat.Hart
open Go Go.RowKit Go.Proofs.YthkodjkkcgdmfaaGreat.Step Go.Proofs.YthkodjkkcgdmfaaGreat.Enc Go.Proofs.YthkodjkkcgdmfaaGreat.Kn
open Go.Proofs.YthkodjkkcgdmfaaGreat.Mem (Ram Grow hasB wholeB num wr Rd fl Arg lst)
open Go.Proofs.YthkodjkkcgdmfaaGreat.Duo (Duo)
set_option linter.unusedVariables false
set_option linter.unusedSimpArgs false
set_option maxRecDepth 100000
set_option maxHeartbeats 1000000 in
theorem tlb_new1 (W : World) : Calls Tryz.prog 36 #[.int .i64 1] W fun e w' => ∃ g, e = .returned (.tuple #[.pointer (some ⟨g, 0, none⟩), .int .i64 0]) ∧ W.heap.size ≤ g ∧ Blk w' g #[.int .i64 1, .slice none 0 0] 115 ∧ Below W.heap.size W w' := by
  go_enter Tryz.func36, Tryz.ntmps36
  have ST := Lib.hid (Kn.nil (S := Step.Nil) (W := W))
  go_wp2_with (((with_reducible refine Step.gate_box (t := 115) rfl ?_); refine Step.fresh (cs := #[.int .i64 1, .slice none 0 0]) (T := 115) rfl ?hr ?_; (case hr => first | (go_simp; done) | (go_simp; rfl)); intro g1 w1 b hg hb; replace ST := Lib.hid (ST.out.made b hg hb); clear b hb; have HG := Lib.hid hg; clear hg))
  refine bodyPost_ret (results_tmp2 rfl _ _ _) rfl ?_
  exact ⟨g1, rfl, HG.out, ST.out.at0, ST.out.below⟩
set_option maxHeartbeats 1000000 in
theorem tlb_new8 (W : World) : Calls Tryz.prog 36 #[.int .i64 8] W fun e w' => ∃ g, e = .returned (.tuple #[.pointer (some ⟨g, 0, none⟩), .int .i64 0]) ∧ W.heap.size ≤ g ∧ Blk w' g #[.int .i64 8, .slice none 0 0] 115 ∧ Below W.heap.size W w' := by
  go_enter Tryz.func36, Tryz.ntmps36
  have ST := Lib.hid (Kn.nil (S := Step.Nil) (W := W))
  go_wp2_with (((with_reducible refine Step.gate_box (t := 115) rfl ?_); refine Step.fresh (cs := #[.int .i64 8, .slice none 0 0]) (T := 115) rfl ?hr ?_; (case hr => first | (go_simp; done) | (go_simp; rfl)); intro g1 w1 b hg hb; replace ST := Lib.hid (ST.out.made b hg hb); clear b hb; have HG := Lib.hid hg; clear hg))
  refine bodyPost_ret (results_tmp2 rfl _ _ _) rfl ?_
  exact ⟨g1, rfl, HG.out, ST.out.at0, ST.out.below⟩
set_option maxHeartbeats 1000000 in
theorem rtlb_new8 (W : World) : Calls Tryz.prog 50 #[.int .i64 8] W fun e w' => ∃ g, e = .returned (.tuple #[.pointer (some ⟨g, 0, none⟩), .int .i64 0]) ∧ W.heap.size ≤ g ∧ Blk w' g #[.int .i64 8, .slice none 0 0] 145 ∧ Below W.heap.size W w' := by
  go_enter Tryz.func50, Tryz.ntmps50
  have ST := Lib.hid (Kn.nil (S := Step.Nil) (W := W))
  go_wp2_with (((with_reducible refine Step.gate_box (t := 145) rfl ?_); refine Step.fresh (cs := #[.int .i64 8, .slice none 0 0]) (T := 145) rfl ?hr ?_; (case hr => first | (go_simp; done) | (go_simp; rfl)); intro g1 w1 b hg hb; replace ST := Lib.hid (ST.out.made b hg hb); clear b hb; have HG := Lib.hid hg; clear hg))
  refine bodyPost_ret (results_tmp2 rfl _ _ _) rfl ?_
  exact ⟨g1, rfl, HG.out, ST.out.at0, ST.out.below⟩
set_option maxHeartbeats 1000000 in
theorem core_new (W : World) (gm gt : Nat) : Calls Tryz.prog 37 #[.pointer (some ⟨gm, 0, none⟩), .pointer (some ⟨gt, 0, none⟩)] W fun e w' => ∃ g, e = .returned (.pointer (some ⟨g, 0, none⟩)) ∧ W.heap.size ≤ g ∧ Blk w' g (ccg gm (.pointer (some ⟨gt, 0, none⟩)) 0 0 0 0 (.map none)) TC ∧ Below W.heap.size W w' := by
  go_enter Tryz.func37, Tryz.ntmps37
  have ST := Lib.hid (Kn.nil (S := Step.Nil) (W := W))
  go_wp2_with (((with_reducible refine Step.gate_box (t := 129) rfl ?_); refine Step.fresh (cs := ccg gm (.pointer (some ⟨gt, 0, none⟩)) 0 0 0 0 (.map none)) (T := 129) rfl ?hr ?_; (case hr => first | (go_simp; done) | (go_simp; rfl)); intro g1 w1 b hg hb; replace ST := Lib.hid (ST.out.made b hg hb); clear b hb; have HG := Lib.hid hg; clear hg))
  go_ret
  exact ⟨g1, rfl, HG.out, ST.out.at0, ST.out.below⟩
set_option maxHeartbeats 1000000 in
theorem enter_any {W : World} {g gm : Nat} {tv km : Value} {r0 v0 done st : Int} (hb : Blk W g (ccg gm tv r0 v0 done st km) TC) (root vmid : Int) : Calls Tryz.prog 54 #[.pointer (some ⟨g, 0, none⟩), .int .u64 root, .int .i64 vmid] W fun e w' => e = .returned (.tuple #[]) ∧ Blk w' g (ccg gm tv root vmid done st km) TC ∧ Mod (One g) W w' := by
  go_enter Tryz.func54, Tryz.ntmps54
  have ST := Lib.hid (Kn.start (S := One g) hb rfl)
  clear hb
  go_wp2_with (first
    | ((with_reducible refine Step.gate_store (t := 22) rfl ?_); refine Step.store ST.out.at0 rfl rfl rfl rfl rfl pl_u64 rfl rfl ?_; intro w3 nb m; replace ST := Lib.hid (ST.out.set0 nb m); clear nb m)
    | ((with_reducible refine Step.gate_store (t := 3) rfl ?_); refine Step.store ST.out.at0 rfl rfl rfl rfl rfl pl_int rfl rfl ?_; intro w3 nb m; replace ST := Lib.hid (ST.out.set0 nb m); clear nb m))
  all_goals (first | go_ret | go_end0 | refine bodyPost_ret (results_none rfl _ _ _) rfl ?_)
  exact ⟨rfl, ST.out.at0, ST.out.mod⟩
theorem pl_pr3 : Step.plainT Tryz.prog 38 = true := by kernel_rfl
theorem own_rd {w : World} {b m : Nat} {v : Value} {f : Nat → Int} (h : w.ownsRow b 5 1 v m (lst m f)) (hf : ∀ k, k < m → 0 ≤ f k ∧ f k < 256) : ∃ A cap, v = .slice A m cap ∧ Rd w A m f (fun k => b ≤ k ∧ k < w.heap.size) := by
  obtain ⟨_, ⟨rfl, rfl⟩ | ⟨g, cap, cur, rfl, hb, ho, hn, hc, hs, ht⟩⟩ := h
  · exact ⟨none, 0, rfl, fun k hk => absurd hk (Nat.not_lt_zero k)⟩
  · refine ⟨some ⟨g, 0, none⟩, cap, rfl, fun k hk => ⟨_, rfl, ⟨hb, (Array.getElem?_eq_some_iff.1 ho).1⟩, ?_, hf k hk⟩⟩
    have h1 := Mem.lst_at m f hk
    rw [← ht, List.getElem?_take, if_pos (by omega)] at h1
    have e : (⟨g, 0, none⟩ : Addr).add k = ⟨g, k, none⟩ := by unfold Addr.add; split <;> simp_all
    rw [e]
    exact ((⟨ho⟩ : Blk w g cur 5).cell k).trans (by simpa using h1)
set_option maxHeartbeats 2000000 in
theorem fboth {W w : World} {h1 h2 n s c : Nat} {base : Int} {mem : Nat → Int} {F1 F2 G : Nat → Prop} {A : Option Addr} {f : Nat → Int} (d : Duo W w h1 h2 base n mem F1 F2) (r : Arg w A s c f G) (hG : ∀ k, G k → ¬ F1 k ∧ ¬ F2 k ∧ k < w.heap.size) (hs : s ≤ 140737488355328) (hf : ∀ k, k < s → 0 ≤ f k ∧ f k < 256) (addr : Int) (ha : 0 ≤ addr ∧ addr < 18446744073709551616) (hh : hasB base n addr s = true) :
    Calls Tryz.prog 51 #[.agg #[.pointer (some ⟨h1, 0, none⟩), .pointer (some ⟨h2, 0, none⟩)], .int .u64 addr, .slice A s c] w fun e w' => e = .returned (.tuple #[]) ∧ ∃ F1' F2', Duo W w' h1 h2 base n (fl mem (addr - base).toNat s f) F1' F2' ∧ (∀ k, k < w.heap.size → F1' k → F1 k) ∧ (∀ k, k < w.heap.size → F2' k → F2 k) ∧ Mod (fun k => F1 k ∨ F2 k) w w' := by
  have TC1 := Lib.hid (fun (X : World) (b : Below w.heap.size w X) => (Mem.copyBytes_any (W := X) (A := A) (n := s) (c := c) (f := f) (G := G) ⟨r.rd.below b fun k hk => (hG k hk).2.2, r.nil_⟩ hs).mono fun e w' h => (by
    obtain ⟨v, e, own, bl⟩ := h
    obtain ⟨B, cap, rfl, rd⟩ := own_rd own hf
    exact ⟨B, cap, e, rd, bl⟩ : ∃ B cap, e = .returned (.slice B s cap) ∧ Rd w' B s f (fun k => X.heap.size ≤ k ∧ k < w'.heap.size) ∧ Below X.heap.size X w'))
  have TR := Lib.hid (fun (X Y : World) (b : Below w.heap.size w X) (b2 : Below X.heap.size X Y) (B : Option Addr) (cap : Nat) (rd : Rd Y B s f (fun k => X.heap.size ≤ k ∧ k < Y.heap.size)) =>
    Mem.fill_yes (c := cap) ((d.one.below b).below b2) addr rd (fun k hk => ⟨fun h => by have := d.bound k (.inl h); have := b.size; omega, hk.2⟩) ha hh)
  have TS := Lib.hid (fun (X Y : World) (b : Below w.heap.size w X) (m : Mod F1 X Y) => Ref.fill_yes (c := c) ((d.two.below b).mod m fun k h2 h1 => d.apart k h1 h2) addr ((r.rd.below b fun k hk => (hG k hk).2.2).mod m (fun k hk => (hG k hk).1) fun k hk => Nat.lt_of_lt_of_le (hG k hk).2.2 b.size) (fun k hk => ⟨(hG k hk).2.1, by have := (hG k hk).2.2; have := b.size; have := m.size; omega⟩) ha hh)
  have D := Lib.hid d
  clear d r hG hs hf ha hh
  go_enter Tryz.func51, Tryz.ntmps51
  have ST := Lib.hid (Kn.nil (S := Step.Nil) (W := w))
  go_wp2_with (((with_reducible refine Step.gate_box (t := 40) rfl ?_); refine Step.fresh (cs := #[.pointer (some ⟨h1, 0, none⟩), .pointer (some ⟨h2, 0, none⟩)]) (T := 40) rfl ?hr ?_; (case hr => first | (go_simp; done) | (go_simp; rfl)); intro g1 w1 b hg hb; replace ST := Lib.hid (ST.out.made b hg hb); clear b hb; have HG := Lib.hid hg; clear hg))
  have c0 := ST.out.at0.cell 0
  simp only [List.getElem?_toArray, List.getElem?_cons_zero] at c0
  go_region_held3 (fun w' => w'.cell? ⟨g1, 0, none⟩ = some (.pointer (some ⟨h1, 0, none⟩))) (first | (go_keep; done) | exact G1.out.cell 0 | exact ST.out.at0.cell 0)
    ((first
    | (go_at_call 81; (with_reducible refine (TC1.out _ (ST.out.call (Below.drew (Below.refl _ _))).below).mono ?_); rintro e wc ⟨B, cap, rfl, rd, hb⟩; have S0 := Lib.hid (ST.out.call (Below.drew (Below.refl _ _))).below; have RD := Lib.hid rd; have CB := Lib.hid hb; replace ST := Lib.hid ((ST.out.call (Below.drew (Below.refl _ _))).call hb); clear rd hb)
    | (go_at_call 80; (with_reducible refine (TR.out _ _ S0.out CB.out _ _ RD.out).mono ?_); rintro e w3 ⟨rfl, r, m⟩; have R1 := Lib.hid r; have M1 := Lib.hid m; have G1 := Lib.hid (ST.out.at0.mod m fun h => by have := D.out.bound _ (.inl h); have := HG.out; omega); clear r m)))
  go_wp2_with (first
    | ((with_reducible refine Step.gate_load (t := 38) rfl ?_); refine Step.load G1.out rfl rfl rfl pl_pr3 rfl ?_)
    | (go_at_call 82; (with_reducible refine (TS.out _ _ ST.out.below M1.out).mono ?_); rintro e w4 ⟨rfl, r, m⟩; have R2 := Lib.hid r; have M2 := Lib.hid m; clear r m))
  go_end0
  have dd := (D.out.below ST.out.below).step R1.out M1.out R2.out M2.out
  have hs := ST.out.below.size
  refine ⟨rfl, _, _, dd, fun k hk h => h.elim id fun h => by omega, fun k hk h => h.elim id fun h => by have := M1.out.size; omega, ?_⟩
  refine ((Mod.of_below ST.out.below _).trans (M1.out.mono fun k _ h => .inl h)).trans (M2.out.mono fun k _ h => .inr h)
end Go.Proofs.YthkodjkkcgdmfaaGreat.Hart
end
section
namespace Go.Proofs.YthkodjkkcgdmfaaGreat.Hart
open Go Go.RowKit Go.Proofs.YthkodjkkcgdmfaaGreat.Step Go.Proofs.YthkodjkkcgdmfaaGreat.Enc Go.Proofs.YthkodjkkcgdmfaaGreat.Kn
open Go.Proofs.YthkodjkkcgdmfaaGreat.Mem (Ram Grow hasB wholeB num wr Rd fl Arg lst)
open Go.Proofs.YthkodjkkcgdmfaaGreat.Duo (Duo)
set_option linter.unusedVariables false
set_option linter.unusedSimpArgs false
abbrev Blks : Type := List (Nat × Array Value × TypeId)
/-- From W to w: a memory, the document's, and the listed blocks, all of them new and apart. -/
structure DK (W w : World) (h1 h2 : Nat) (base : Int) (n : Nat) (m1 m2 : Nat → Int) (F1 F2 : Nat → Prop) (L : Blks) : Prop where
  one : Ram w h1 base n m1 F1
  two : Ref.Mem w h2 base n m2 F2
  apart : ∀ k, F1 k → ¬ F2 k
  new : ∀ k, F1 k ∨ F2 k → W.heap.size ≤ k
  kn : Kn Step.Nil W w L
  ap : ∀ k, F1 k ∨ F2 k → ∀ p ∈ L, p.1 ≠ k
section
variable {W w w' : World} {h1 h2 n g : Nat} {base : Int} {m1 m2 mem mem' m1' : Nat → Int} {F1 F2 F1' F2' : Nat → Prop} {L L' : Blks} {c c' : Array Value} {T T' : TypeId}
theorem DK.bound (d : DK W w h1 h2 base n m1 m2 F1 F2 L) : ∀ k, F1 k ∨ F2 k → k < w.heap.size := fun k h => h.elim (d.one.bound k) (d.two.bound k)
theorem DK.of (d : Duo W w h1 h2 base n mem F1 F2) (k : Kn Step.Nil W w L) (a : ∀ k, F1 k ∨ F2 k → ∀ p ∈ L, p.1 ≠ k) : DK W w h1 h2 base n mem mem F1 F2 L := ⟨d.one, d.two, d.apart, d.new, k, a⟩
theorem DK.duo (d : DK W w h1 h2 base n mem mem F1 F2 L) : Duo W w h1 h2 base n mem F1 F2 := ⟨d.one, d.two, d.apart, d.new, d.kn.mod⟩
theorem DK.size (d : DK W w h1 h2 base n m1 m2 F1 F2 L) : W.heap.size ≤ w.heap.size := d.kn.mod.size
theorem DK.below (d : DK W w h1 h2 base n m1 m2 F1 F2 L) : Below W.heap.size W w := d.kn.below
theorem DK.call (d : DK W w h1 h2 base n m1 m2 F1 F2 L) (b : Below w.heap.size w w') : DK W w' h1 h2 base n m1 m2 F1 F2 L := ⟨d.one.below b, d.two.below b, d.apart, d.new, d.kn.call b, d.ap⟩
theorem DK.made (d : DK W w h1 h2 base n m1 m2 F1 F2 L) (b : Blk w' g c T) (hg : w.heap.size ≤ g) (hb : Below w.heap.size w w') : DK W w' h1 h2 base n m1 m2 F1 F2 ((g, c, T) :: L) :=
  ⟨d.one.below hb, d.two.below hb, d.apart, d.new, d.kn.made b hg hb, fun k hk p hp => by
    rcases List.mem_cons.1 hp with rfl | hp
    · have := d.bound k hk
      show g ≠ k
      omega
    · exact d.ap k hk p hp⟩
/-- A listed block is turned. -/
theorem DK.set (d : DK W w h1 h2 base n m1 m2 F1 F2 L) (k : Kn Step.Nil W w' L') (m : Mod (One g) w w') (hg : ∃ p ∈ L, p.1 = g) (hL : L'.map (·.1) = L.map (·.1)) : DK W w' h1 h2 base n m1 m2 F1 F2 L' := by
  obtain ⟨p, hp, rfl⟩ := hg
  refine ⟨d.one.mod m fun k hk e => d.ap k (.inl hk) p hp (e : k = p.1).symm, d.two.mod m fun k hk e => d.ap k (.inr hk) p hp (e : k = p.1).symm, d.apart, d.new, k, fun k hk q hq => ?_⟩
  have : q.1 ∈ L'.map (·.1) := List.mem_map.2 ⟨q, hq, rfl⟩
  rw [hL] at this
  obtain ⟨r, hr, e⟩ := List.mem_map.1 this
  rw [← e]
  exact d.ap k hk r hr
/-- Both memories are turned. -/
theorem DK.turn (d : DK W w h1 h2 base n m1 m2 F1 F2 L) (r1 : Ram w' h1 base n m1' F1') (r2 : Ref.Mem w' h2 base n mem' F2') (ha : ∀ k, F1' k → ¬ F2' k) (f1 : ∀ k, k < w.heap.size → F1' k → F1 k) (f2 : ∀ k, k < w.heap.size → F2' k → F2 k) (m : Mod (fun k => F1 k ∨ F2 k) w w') :
    DK W w' h1 h2 base n m1' mem' F1' F2' L := by
  have hf : ∀ k, F1' k ∨ F2' k → k < w.heap.size → F1 k ∨ F2 k := fun k hk hl => hk.imp (f1 k hl) (f2 k hl)
  refine ⟨r1, r2, ha, fun k hk => ?_, d.kn.turn m (fun p hp e => d.ap _ e p hp rfl) fun i hi e => absurd (d.new i e) (by omega), fun k hk p hp e => ?_⟩
  · have := d.size
    by_cases hl : k < w.heap.size
    · exact d.new k (hf k hk hl)
    · omega
  · have := (d.kn.blk p hp).lt
    exact d.ap k (hf k hk (by omega)) p hp e
theorem DK.duoTurn (d : DK W w h1 h2 base n m1 m2 F1 F2 L) (u : Duo W w' h1 h2 base n mem' F1' F2') (f1 : ∀ k, k < w.heap.size → F1' k → F1 k) (f2 : ∀ k, k < w.heap.size → F2' k → F2 k) (m : Mod (fun k => F1 k ∨ F2 k) w w') : DK W w' h1 h2 base n mem' mem' F1' F2' L :=
  d.turn u.one u.two u.apart f1 f2 m
theorem DK.blk (d : DK W w h1 h2 base n m1 m2 F1 F2 L) {p : Nat × Array Value × TypeId} (hp : p ∈ L) : Blk w p.1 p.2.1 p.2.2 := d.kn.blk p hp
theorem DK.drop {p : Nat × Array Value × TypeId} (d : DK W w h1 h2 base n m1 m2 F1 F2 (p :: L)) : DK W w h1 h2 base n m1 m2 F1 F2 L := ⟨d.one, d.two, d.apart, d.new, d.kn.drop, fun k hk q hq => d.ap k hk q (List.mem_cons_of_mem _ hq)⟩
/-- A step of a core of it. -/
theorem DK.core {tv : Value} {vmid : Int} {done st : Int} {km : Value} (d : DK W w h1 h2 base n m1 m2 F1 F2 ((g, ccg h1 tv 0 vmid 0 0 km, TC) :: L)) : Kor w g h1 tv vmid base n m1 F1 := ⟨.inl ⟨km, d.kn.at0⟩, d.one, fun hf => d.ap g (.inl hf) _ (List.mem_cons_self ..) rfl⟩
end
end Go.Proofs.YthkodjkkcgdmfaaGreat.Hart
end
section
namespace Go.Proofs.YthkodjkkcgdmfaaGreat.Hart
open Go Go.RowKit Go.Proofs.YthkodjkkcgdmfaaGreat.Step Go.Proofs.YthkodjkkcgdmfaaGreat.Enc Go.Proofs.YthkodjkkcgdmfaaGreat.Kn
open Go.Proofs.YthkodjkkcgdmfaaGreat.Mem (Ram Grow hasB wholeB num wr Rd fl Arg lst newB place_any)
open Go.Proofs.YthkodjkkcgdmfaaGreat.Duo (Duo RdC cm memory_any size_two)
set_option linter.unusedVariables false
set_option linter.unusedSimpArgs false
set_option maxRecDepth 100000
/-- A case, as an argument; nothing in its TLB. -/
def cs6 (b fr : Int) (A : Option Addr) (s c : Nat) (A2 : Option Addr) (len cap : Nat) (root vmid : Int) (h : Hrt) (now : Int) : Array Value := #[.int .u64 b, .int .i64 fr, .slice A s c, .slice A2 len cap, .int .u64 root, .int .i64 vmid, .slice none 0 0, .int .u64 (h.x 0), .int .u64 (h.x 1), .int .u64 (h.x 2), .int .u64 (h.x 3), .int .u64 (h.x 4), .int .u64 (h.x 5), .int .u64 (h.x 6), .int .u64 (h.x 7), .int .u64 (h.x 8), .int .u64 (h.x 9), .int .u64 (h.x 10), .int .u64 (h.x 11), .int .u64 (h.x 12), .int .u64 (h.x 13), .int .u64 (h.x 14), .int .u64 (h.x 15), .int .u64 (h.x 16), .int .u64 (h.x 17), .int .u64 (h.x 18), .int .u64 (h.x 19), .int .u64 (h.x 20), .int .u64 (h.x 21), .int .u64 (h.x 22), .int .u64 (h.x 23), .int .u64 (h.x 24), .int .u64 (h.x 25), .int .u64 (h.x 26), .int .u64 (h.x 27), .int .u64 (h.x 28), .int .u64 (h.x 29), .int .u64 (h.x 30), .int .u64 (h.x 31), .int .u64 h.pc, .bool h.user, .bool h.on, .bool h.spie, .bool h.spp, .bool h.sum, .bool h.mxr, .bool h.rsv, .int .u64 h.stvec, .int .u64 h.sscr, .int .u64 h.sepc, .int .u64 h.scause, .int .u64 h.stval, .int .u64 h.sie, .int .u64 h.sip, .int .u64 h.satp, .int .u64 h.resv, .int .u64 now]
abbrev CT : TypeId := 109
theorem pl_sb : Step.plainT Tryz.prog 66 = true := by kernel_rfl
theorem pl_st : Step.plainT Tryz.prog 67 = true := by kernel_rfl
theorem results5 {P : Program} {fn : Func} {a b c p d : Tmp} {ty : TypeId} (h : fn.results = #[.tmp a, .tmp b, .tmp c, .cell p ty, .tmp d]) (tmps : Array Value) (w : World) (g : Nat) (t : TypeId) (cs : Array Value) (de : TypeDesc)
    (hp : tmps.getD p undef = .pointer (some ⟨g, 0, none⟩)) (hg : Blk w g cs t) (hu : P.underlying ty = some de) (hd : (match de with | .struct _ | .array _ _ => true | _ => false) = true) (hi : (P.info? ty).map (·.size) = some cs.size) :
    (results fn tmps).run P w = .ok (.tuple #[tmps.getD a undef, tmps.getD b undef, tmps.getD c undef, .agg cs, tmps.getD d undef]) w := by
  have h2 := run_loadVar_row (P := P) w g t ty cs (0, 0) de hg.out hu hd hi
  have e : (results fn tmps).run P w = ((asAddr (tmps.getD p undef)).run P w).andThen fun ad w₁ => ((loadVar ty ad).run P w₁).andThen fun v w₂ => .ok (.tuple #[tmps.getD a undef, tmps.getD b undef, tmps.getD c undef, v, tmps.getD d undef]) w₂ := by
    simp only [results, h]
    simp [Sem.run_bind, Result.andThen]
  rw [e, hp]
  simp only [asAddr, Sem.run_pure, Result.andThen_ok, h2]
section
variable {b fr : Int} {A A2 : Option Addr} {s c len cap : Nat} {root vmid now : Int} {h : Hrt}
theorem cs6_0 : (cs6 b fr A s c A2 len cap root vmid h now)[0]? = some (.int .u64 b) := rfl
theorem cs6_1 : (cs6 b fr A s c A2 len cap root vmid h now)[1]? = some (.int .i64 fr) := rfl
theorem cs6_2 : (cs6 b fr A s c A2 len cap root vmid h now)[2]? = some (.slice A s c) := rfl
theorem cs6_3 : (cs6 b fr A s c A2 len cap root vmid h now)[3]? = some (.slice A2 len cap) := rfl
theorem cs6_4 : (cs6 b fr A s c A2 len cap root vmid h now)[4]? = some (.int .u64 root) := rfl
theorem cs6_5 : (cs6 b fr A s c A2 len cap root vmid h now)[5]? = some (.int .i64 vmid) := rfl
theorem cs6_6 : (cs6 b fr A s c A2 len cap root vmid h now)[6]? = some (.slice none 0 0) := rfl
end
theorem _root_.Go.Proofs.YthkodjkkcgdmfaaGreat.Duo.Duo.ahead {V W w : World} {h1 h2 n : Nat} {base : Int} {mem : Nat → Int} {F1 F2 : Nat → Prop} (d : Duo V w h1 h2 base n mem F1 F2) (b : Below W.heap.size W V) : Duo W w h1 h2 base n mem F1 F2 :=
  ⟨d.one, d.two, d.apart, fun k h => Nat.le_trans b.size (d.new k h), (Mod.of_below b Step.Nil).trans d.mod⟩
section
variable {W w2 wm : World} {g5 g1 h1 h2 n : Nat} {c5 c1 : Array Value} {T5 T1 : TypeId} {base : Int} {mem : Nat → Int} {F1 F2 : Nat → Prop}
theorem both_a (ST : Kn Step.Nil W w2 [(g5, c5, T5), (g1, c1, T1)]) (d : Duo (w2.alloc (.cells #[.pointer none, .pointer none] 40)).drew wm h1 h2 base n mem F1 F2) :
    Blk wm w2.heap.size #[.pointer none, .pointer none] 40 ∧ Kn Step.Nil W ((wm.setCell ⟨w2.heap.size, 0, none⟩ (.pointer (some ⟨h1, 0, none⟩))).setCell ⟨w2.heap.size, 1, none⟩ (.pointer (some ⟨h2, 0, none⟩))) [(w2.heap.size, #[.pointer (some ⟨h1, 0, none⟩), .pointer (some ⟨h2, 0, none⟩)], 40), (g5, c5, T5), (g1, c1, T1)] ∧ Duo W ((wm.setCell ⟨w2.heap.size, 0, none⟩ (.pointer (some ⟨h1, 0, none⟩))).setCell ⟨w2.heap.size, 1, none⟩ (.pointer (some ⟨h2, 0, none⟩))) h1 h2 base n mem F1 F2 ∧ ∀ k, F1 k ∨ F2 k → ∀ p ∈ ([(w2.heap.size, #[.pointer (some ⟨h1, 0, none⟩), .pointer (some ⟨h2, 0, none⟩)], 40), (g5, c5, T5), (g1, c1, T1)] : Blks), p.1 ≠ k := by
  have KA := ((ST.made (alloc_out w2 #[.pointer none, .pointer none] 40) (Nat.le_refl _) (alloc_below _ _)).call (Below.drew (Below.refl _ _))).call d.out
  have KB := KA.set0 (setCell_out _ _ 0 (.pointer (some ⟨h1, 0, none⟩)) _ _ KA.at0) (setCell_mod _ _ _ _)
  have KC := KB.set0 (setCell_out _ _ 1 (.pointer (some ⟨h2, 0, none⟩)) _ _ KB.at0) (setCell_mod _ _ _ _)
  have DW := d.ahead ((ST.call (alloc_below w2 (.cells #[.pointer none, .pointer none] 40))).call (Below.drew (Below.refl _ _))).below
  have hN : W.heap.size ≤ w2.heap.size := ST.below.size
  have hX : w2.heap.size < (w2.alloc (.cells #[.pointer none, .pointer none] 40)).heap.size := (alloc_out w2 _ _).lt
  have l5 := ST.at0.lt
  have l1 := ST.at1.lt
  have hnew : ∀ k, F1 k ∨ F2 k → (w2.alloc (.cells #[.pointer none, .pointer none] 40)).heap.size ≤ k := fun k hk => d.new k hk
  have nN : ∀ k, F1 k ∨ F2 k → ¬ One w2.heap.size k := fun k hk e => by
    have e' : k = w2.heap.size := e
    have := hnew k hk
    omega
  refine ⟨KA.at0, KC, (DW.other (setCell_mod wm w2.heap.size 0 (.pointer (some ⟨h1, 0, none⟩))) nN fun k e => ?_).other (setCell_mod _ w2.heap.size 1 (.pointer (some ⟨h2, 0, none⟩))) nN fun k e => ?_, fun k hk p hp => ?_⟩
  · have e' : k = w2.heap.size := e
    omega
  · have e' : k = w2.heap.size := e
    omega
  · have := hnew k hk
    simp only [List.mem_cons, List.not_mem_nil, or_false] at hp
    rcases hp with rfl | rfl | rfl
    · show w2.heap.size ≠ k; omega
    · show g5 ≠ k; omega
    · show g1 ≠ k; omega
theorem both_b (ST : Kn Step.Nil W w2 [(g5, c5, T5), (g1, c1, T1)]) (d : Duo w2.drew wm h1 h2 base n mem F1 F2) :
    Kn Step.Nil W (wm.alloc (.cells #[.pointer (some ⟨h1, 0, none⟩), .pointer (some ⟨h2, 0, none⟩)] 40)) [(wm.heap.size, #[.pointer (some ⟨h1, 0, none⟩), .pointer (some ⟨h2, 0, none⟩)], 40), (g5, c5, T5), (g1, c1, T1)] ∧ Duo W (wm.alloc (.cells #[.pointer (some ⟨h1, 0, none⟩), .pointer (some ⟨h2, 0, none⟩)] 40)) h1 h2 base n mem F1 F2 ∧ ∀ k, F1 k ∨ F2 k → ∀ p ∈ ([(wm.heap.size, #[.pointer (some ⟨h1, 0, none⟩), .pointer (some ⟨h2, 0, none⟩)], 40), (g5, c5, T5), (g1, c1, T1)] : Blks), p.1 ≠ k := by
  have KC := (ST.call (Below.drew (Below.refl _ _))).call d.out
  have DW := d.ahead (ST.call (Below.drew (Below.refl _ _))).below
  have l5 := ST.at0.lt
  have l1 := ST.at1.lt
  refine ⟨KC.made (alloc_out wm _ _) (Nat.le_refl _) (alloc_below _ _), DW.below (alloc_below _ _), fun k hk p hp => ?_⟩
  have : w2.heap.size ≤ k := d.new k hk
  have := DW.bound k hk
  simp only [List.mem_cons, List.not_mem_nil, or_false] at hp
  rcases hp with rfl | rfl | rfl
  · show wm.heap.size ≠ k; omega
  · show g5 ≠ k; omega
  · show g1 ≠ k; omega
end
section
variable {W wE : World} {gN g5 g1 gc gtr gt h1 h2 n : Nat} {cN c1 cc ctr ct : Array Value} {T1 Tc Ttr Tt : TypeId} {base : Int} {m1 m2 : Nat → Int} {F1 F2 : Nat → Prop}
theorem both_c (C : Array Value) (ST : DK W wE h1 h2 base n m1 m2 F1 F2 [(gc, cc, Tc), (gtr, ctr, Ttr), (gt, ct, Tt), (gN, cN, 40), (g5, #[.pointer none, .pointer none], 40), (g1, c1, T1)]) :
    DK W ((wE.alloc (.cells C CT)).drew) h1 h2 base n m1 m2 F1 F2 [(wE.heap.size, C, CT), (gc, cc, Tc), (gtr, ctr, Ttr), (gt, ct, Tt), (gN, cN, 40), (g5, #[.pointer none, .pointer none], 40), (g1, c1, T1)] ∧ DK W ((((wE.setCell ⟨g5, 0, none⟩ (.pointer (some ⟨h1, 0, none⟩))).setCell ⟨g5, 1, none⟩ (.pointer (some ⟨h2, 0, none⟩))).alloc (.cells C CT)).drew) h1 h2 base n m1 m2 F1 F2 [(wE.heap.size, C, CT), (gc, cc, Tc), (gtr, ctr, Ttr), (gt, ct, Tt), (gN, cN, 40), (g5, #[.pointer (some ⟨h1, 0, none⟩), .pointer (some ⟨h2, 0, none⟩)], 40), (g1, c1, T1)] := by
  have D := (ST.made (alloc_out wE C CT) (Nat.le_refl _) (alloc_below _ _)).call (Below.drew (Below.refl _ _))
  have E1 := ST.set (ST.kn.set4 (setCell_out _ _ 0 (.pointer (some ⟨h1, 0, none⟩)) _ _ ST.kn.at4) (setCell_mod _ _ _ _)) (setCell_mod _ _ _ _) ⟨_, List.mem_of_getElem? (i := 4) rfl, rfl⟩ rfl
  have E2 := E1.set (E1.kn.set4 (setCell_out _ _ 1 (.pointer (some ⟨h2, 0, none⟩)) _ _ E1.kn.at4) (setCell_mod _ _ _ _)) (setCell_mod _ _ _ _) ⟨_, List.mem_of_getElem? (i := 4) rfl, rfl⟩ rfl
  have e : ((wE.setCell ⟨g5, 0, none⟩ (.pointer (some ⟨h1, 0, none⟩))).setCell ⟨g5, 1, none⟩ (.pointer (some ⟨h2, 0, none⟩))).heap.size = wE.heap.size := by simp [World.setCell]
  have D2 := (E2.made (alloc_out ((wE.setCell ⟨g5, 0, none⟩ (.pointer (some ⟨h1, 0, none⟩))).setCell ⟨g5, 1, none⟩ (.pointer (some ⟨h2, 0, none⟩))) C CT) (Nat.le_refl _) (alloc_below _ _)).call (Below.drew (Below.refl _ _))
  rw [e] at D2
  exact ⟨D, D2⟩
end
set_option maxHeartbeats 8000000 in
theorem both_any (W : World) (b fr : Int) (hfr : -9223372036854775808 ≤ fr ∧ fr < 9223372036854775808) (hb0 : 0 ≤ b ∧ b < 18446744073709551616) (base : Int) (hbase : b % 1099511627776 / 4096 * 4096 = base) (n : Nat) (hn : 1 + fr % 8 = n) (A : Option Addr) (s c : Nat) (f : Nat → Int) (hA : Arg W A s c f (· < W.heap.size)) (hs : s ≤ 4096) (hf : ∀ k, k < s → 0 ≤ f k ∧ f k < 256)
    (A2 : Option Addr) (len cap : Nat) (f2 : Nat → Int × Int) (hA2 : RdC W A2 len f2 (· < W.heap.size)) (hl : len ≤ 9223372036854775807) (root vmid : Int) (h : Hrt) (now : Int) :
    Calls Tryz.prog 32 #[.agg (cs6 b fr A s c A2 len cap root vmid h now)] W fun e w' => ∃ gc gcr gt gtr h1 h2 F1 F2 L, e = .returned (.tuple #[.pointer (some ⟨gc, 0, none⟩), .pointer (some ⟨gcr, 0, none⟩), .pointer (some ⟨gt, 0, none⟩), .agg #[.pointer (some ⟨h1, 0, none⟩), .pointer (some ⟨h2, 0, none⟩)], .bool true]) ∧ DK W w' h1 h2 base n (fl (cm n f2 len) 0 s f) (fl (cm n f2 len) 0 s f) F1 F2 ((gcr, #[.pointer (some ⟨h2, 0, none⟩), .pointer (some ⟨gtr, 0, none⟩), .int .u64 root, .int .i64 vmid, .bool false], CT) :: (gc, ccg h1 (.pointer (some ⟨gt, 0, none⟩)) root vmid 0 0 (.map none), TC) :: (gtr, #[.int .i64 8, .slice none 0 0], 145) :: (gt, #[.int .i64 8, .slice none 0 0], 115) :: L) := by
  have e0 : 0 ≤ base ∧ base < 1099511627776 := by omega
  have en : 1 ≤ n ∧ n ≤ 8 := by omega
  have hnew : newB base n = true := decide_eq_true (by refine ⟨?_, ?_, ?_, ?_⟩ <;> omega)
  have w1 : IntKind.u64.wrap (IntKind.u64.wrap ((b.tmod 1099511627776).tdiv 4096) * 4096) = base := by
    rw [Int.tmod_eq_emod_of_nonneg hb0.1, Int.tdiv_eq_ediv_of_nonneg (by omega), IntWalk.u64_in (b % 1099511627776 / 4096) (by omega), hbase]; exact IntWalk.u64_in _ (by omega)
  have w2 : IntKind.i64.wrap (1 + fr % 8) = n := by rw [hn]; exact IntWalk.i64_in _ (by omega)
  have HHB := Lib.hid (show hasB base n base (s : Nat) = true by simp only [hasB, decide_eq_true_eq]; omega)
  have TP := Lib.hid (fun w => place_any fr 8 (by decide) hfr (by decide) w)
  have TM := Lib.hid (fun (X : World) (bl : Below W.heap.size W X) => memory_any X base n n rfl (by omega) hnew A2 len cap f2 ((hA2.mod (Mod.of_below bl Step.Nil) (fun _ _ h => h) fun _ h => h).wide fun k hk => Nat.lt_of_lt_of_le hk bl.size) hl)
  have RA := Lib.hid hA
  have HS := Lib.hid hs
  have HF := Lib.hid hf
  have HN := Lib.hid hnew
  have HE0 := Lib.hid e0
  have HEN := Lib.hid en
  clear hA hA2 hs hl hf hnew e0 en hb0 hfr hbase hn
  go_enter Tryz.func32, Tryz.ntmps32
  have ST := Lib.hid (Kn.nil (S := Step.Nil) (W := W))
  go_wp2_with (first
    | ((with_reducible refine Step.gate_box (t := 69) rfl ?_); refine Step.fresh (cs := cs6 b fr A s c A2 len cap root vmid h now) (T := 69) rfl ?hr ?_; (case hr => first | (go_simp; done) | (go_simp; rfl)); intro g1 w1 b hg hb; replace ST := Lib.hid (ST.out.made b hg hb); clear b hb; clear hg)
    | ((with_reducible refine Step.gate_alloc (t := 40) rfl ?_); refine Step.freshAlloc rfl rfl (Duo.alloc_agg Duo.zero_two) ?_; intro g5 w2 b hg hb; replace ST := Lib.hid (ST.out.made b hg hb); clear b hb; clear hg)
    | ((with_reducible refine Step.gate_load (t := 22) rfl ?_); refine Step.load ST.out.at1 rfl rfl rfl pl_u64 cs6_0 ?_))
  have c1 := (ST.out.at1.cell 1).trans cs6_1
  have c3 := (ST.out.at1.cell 3).trans cs6_3
  have hu := Tryz.underlying40
  have hz := size_two
  go_region_held3 (fun w' => w'.cell? ⟨g1, 1, none⟩ = some (.int .i64 fr) ∧ w'.cell? ⟨g1, 3, none⟩ = some (.slice A2 len cap))
    (first | (go_keep; done) | ((refine ⟨?_, ?_⟩ <;> go_keep); done) | exact ⟨(K8.out.at2.cell 1).trans cs6_1, (K8.out.at2.cell 3).trans cs6_3⟩ | exact ⟨((((ST.out.call (Below.drew (Below.refl _ _))).call d.out).call (alloc_below _ _)).at1.cell 1).trans cs6_1, ((((ST.out.call (Below.drew (Below.refl _ _))).call d.out).call (alloc_below _ _)).at1.cell 3).trans cs6_3⟩ | exact ⟨(((ST.out.call (Below.drew (Below.refl _ _))).call d.out).at1.cell 1).trans cs6_1, (((ST.out.call (Below.drew (Below.refl _ _))).call d.out).at1.cell 3).trans cs6_3⟩ | exact ⟨((((ST.out.call (alloc_below _ _)).call (Below.drew (Below.refl _ _))).call d.out).at1.cell 1).trans cs6_1, ((((ST.out.call (alloc_below _ _)).call (Below.drew (Below.refl _ _))).call d.out).at1.cell 3).trans cs6_3⟩)
    ((first
      | (go_at_call 25; (with_reducible refine (TP.out _).mono ?_); rintro e w' ⟨rfl, rfl⟩)
      | (go_at_call 35; (with_reducible refine (TM.out _ (by first | exact (ST.out.call (Below.drew (Below.refl _ _))).below | exact ((ST.out.call (alloc_below _ _)).call (Below.drew (Below.refl _ _))).below)).mono ?_); rintro e wm ⟨h1, h2, F1, F2, rfl, d⟩; (first | (have VA := both_a ST.out d; have n0 := VA.1.cell 0; have n1 := VA.1.cell 1; have f0 := VA.1.frozen 0; have f1 := VA.1.frozen 1; simp only [List.getElem?_toArray, List.getElem?_cons_zero, List.getElem?_cons_succ] at n0 n1; have K8 := Lib.hid VA.2.1; have D8 := Lib.hid VA.2.2.1; have NF8 := Lib.hid VA.2.2.2; clear VA; obtain ⟨gN, hgN⟩ : ∃ x, x = w2.heap.size := ⟨_, rfl⟩) | (have VB := both_b ST.out d; have K8 := Lib.hid VB.1; have D8 := Lib.hid VB.2.1; have NF8 := Lib.hid VB.2.2; clear VB; obtain ⟨gN, hgN⟩ : ∃ x, x = wm.heap.size := ⟨_, rfl⟩)))))
  all_goals
    rename_i hHeld
    clear hHeld
    have ST' := Lib.hid (DK.of D8.out K8.out NF8.out)
    replace ST := ST'
    clear ST' D8 K8 NF8 d
    rw [← hgN] at ST ⊢
    clear hgN
    have hsd : decide ((4096 : Int) < (s : Int)) = false := by have := HS.out; exact decide_eq_false (by omega)
    go_wp2_with (first
      | (go_at_call 36; (with_reducible refine (tlb_new8 _).mono ?_); rintro e w' ⟨gt, rfl, hg, b, hb⟩; replace ST := Lib.hid (ST.out.made b hg hb); clear hg b hb)
      | (go_at_call 50; (with_reducible refine (rtlb_new8 _).mono ?_); rintro e w' ⟨gtr, rfl, hg, b, hb⟩; replace ST := Lib.hid (ST.out.made b hg hb); clear hg b hb)
      | ((with_reducible refine Step.gate_load (t := 66) rfl ?_); refine Step.load ST.out.kn.at4 rfl rfl rfl pl_sb cs6_2 ?_)
      | ((with_reducible refine Step.gate_load (t := 40) rfl ?_); refine Step.loadAll ST.out.kn.at2 rfl rfl rfl Tryz.underlying40 rfl size_two ?_)
      | (go_at_call 51; (with_reducible refine (fboth ST.out.duo (⟨RA.out.rd.below ST.out.below (fun k h => h), RA.out.nil_⟩ : Arg _ A s c f (fun x => x < W.heap.size)) (fun k hk => by have hk' : k < W.heap.size := hk; have hz := ST.out.size; exact ⟨fun h => by have := ST.out.new k (.inl h); omega, fun h => by have := ST.out.new k (.inr h); omega, by omega⟩) (by have := HS.out; omega) HF.out base (by have := HE0.out; omega) HHB.out).mono ?_); rintro e w9 ⟨rfl, F1', F2', hd, f1, f2, m⟩; rw [show (base - base).toNat = 0 by omega] at hd; replace ST := Lib.hid (ST.out.duoTurn hd f1 f2 m); clear hd f1 f2 m))
    go_loopw [15] (fun i w => i = .int .i64 0 ∧ w = w9) (fun _ _ => 0)
    case atStart => exact ⟨rfl, rfl⟩
    case round =>
      obtain ⟨rfl, rfl⟩ := hrel
      go_wp2_with (first
        | ((with_reducible refine Step.gate_load (t := 67) rfl ?_); refine Step.load ST.out.kn.at4 rfl rfl rfl pl_st cs6_6 ?_)
        | ((with_reducible refine Step.gate_load (t := 37) rfl ?_); refine Step.load ST.out.kn.at2 rfl rfl rfl pl_pm rfl ?_)
        | (go_at_call 37; (with_reducible refine (core_new _ _ _).mono ?_); rintro e w' ⟨gc, rfl, hg, b, hb⟩; replace ST := Lib.hid (ST.out.made b hg hb); clear hg b hb)
        | ((with_reducible refine Step.gate_load (t := 22) rfl ?_); refine Step.load ST.out.kn.at5 rfl rfl rfl pl_u64 cs6_4 ?_)
        | ((with_reducible refine Step.gate_load (t := 3) rfl ?_); refine Step.load ST.out.kn.at5 rfl rfl rfl pl_int cs6_5 ?_)
        | (go_at_call 54; (with_reducible refine (enter_any ST.out.kn.at0 _ _).mono ?_); rintro e wE ⟨rfl, nb, m⟩; replace ST := Lib.hid (ST.out.set (ST.out.kn.set0 nb m) m ⟨_, List.mem_cons_self .., rfl⟩ rfl); clear nb m))
      have VC := both_c #[.pointer (some ⟨h2, 0, none⟩), .pointer (some ⟨gtr, 0, none⟩), .int .u64 root, .int .i64 vmid, .bool false] ST.out
      have n0 := VC.1.kn.at5.cell 0
      have n1 := VC.1.kn.at5.cell 1
      have f0 := VC.1.kn.at5.frozen 0
      have f1 := VC.1.kn.at5.frozen 1
      have a0 := VC.1.kn.at4.cell 0
      have a1 := VC.1.kn.at4.cell 1
      have a4 := (VC.1.kn.at6.cell 4).trans cs6_4
      have a5 := (VC.1.kn.at6.cell 5).trans cs6_5
      have b0 := VC.2.kn.at4.cell 0
      have b1 := VC.2.kn.at4.cell 1
      have b4 := (VC.2.kn.at6.cell 4).trans cs6_4
      have b5 := (VC.2.kn.at6.cell 5).trans cs6_5
      have i0 := (ST.out.call (Below.drew (Below.refl _ _))).kn.at3.cell 0
      have i1 := (ST.out.call (Below.drew (Below.refl _ _))).kn.at3.cell 1
      have i4 := ((ST.out.call (Below.drew (Below.refl _ _))).kn.at5.cell 4).trans cs6_4
      have i5 := ((ST.out.call (Below.drew (Below.refl _ _))).kn.at5.cell 5).trans cs6_5
      simp only [List.getElem?_toArray, List.getElem?_cons_zero, List.getElem?_cons_succ] at n0 n1 a0 a1 b0 b1 i0 i1
      have VM := (ST.out.made (alloc_out wE #[.pointer (some ⟨h2, 0, none⟩), .pointer (some ⟨gtr, 0, none⟩), .int .u64 root, .int .i64 vmid, .bool false] CT) (Nat.le_refl _) (alloc_below _ _)).kn
      have e0 := ST.out.kn.at4.cell 0
      have e1 := ST.out.kn.at4.cell 1
      have q0 := ST.out.kn.at4.frozen 0
      have q1 := ST.out.kn.at4.frozen 1
      have p0 := VM.at5.cell 0
      have p1 := VM.at5.cell 1
      have r0 := VM.at5.frozen 0
      have r1 := VM.at5.frozen 1
      have l5 := ST.out.kn.at4.lt
      have ne5 : ¬ g5 = wE.heap.size := by omega
      simp only [List.getElem?_toArray, List.getElem?_cons_zero, List.getElem?_cons_succ] at e0 e1 p0 p1
      clear VM
      replace VC := Lib.hid VC.2
      go_region_held3 (fun w' => w'.cell? ⟨gN, 0, none⟩ = some (.pointer (some ⟨h1, 0, none⟩)) ∧ w'.cell? ⟨gN, 1, none⟩ = some (.pointer (some ⟨h2, 0, none⟩)) ∧ w'.cell? ⟨g1, 4, none⟩ = some (.int .u64 root) ∧ w'.cell? ⟨g1, 5, none⟩ = some (.int .i64 vmid))
        (first | exact ⟨i0, i1, i4, i5⟩ | exact ⟨a0, a1, a4, a5⟩ | exact ⟨b0, b1, b4, b5⟩ | (go_keep; done)) (fail)
      go_wp2
      refine bodyPost_ret (results5 rfl _ _ g5 _ _ _ rfl VC.out.kn.at5 Tryz.underlying40 rfl size_two) rfl ?_
      exact ⟨gc, wE.heap.size, gt, gtr, h1, h2, _, _, _, rfl, VC.out⟩
end Go.Proofs.YthkodjkkcgdmfaaGreat.Hart
end
