/- Parts of the walks and laws for the claim: Memory, MemoryB, LendA, New, Dk, Both, RunB, Awk, AwkB, LawA; no conditions beyond the theorems' own. -/
import Derived.Below
import Derived.ChangeSlices
import Derived.Deep.RegionHeld3
import Derived.Laws.AppendOwn
import Derived.Laws.OwnMore
import Derived.Laws.ResultCell
import Derived.OpenShut
import Derived.ProofKit
import Derived.RowKit
import Derived.WalkKit
import Derived.Test.YthkodjkkcgdmfaaGreatK3
import Derived.Test.YthkodjkkcgdmfaaGreatK13
section
namespace Go.Proofs.YthkodjkkcgdmfaaGreat.Duo
open Go Go.RowKit Go.Proofs.YthkodjkkcgdmfaaGreat.Step Go.Proofs.YthkodjkkcgdmfaaGreat.Mem
set_option linter.unusedVariables false
set_option linter.unusedSimpArgs false
set_option maxRecDepth 100000
/-- A memory and the document's, of one content, in blocks newer than W. -/
structure Duo (W w : World) (h1 h2 : Nat) (base : Int) (n : Nat) (mem : Nat → Int) (F1 F2 : Nat → Prop) : Prop where
  one : Ram w h1 base n mem F1
  two : Ref.Mem w h2 base n mem F2
  apart : ∀ k, F1 k → ¬ F2 k
  new : ∀ k, F1 k ∨ F2 k → W.heap.size ≤ k
  mod : Mod Nil W w
section
variable {W w w' : World} {h1 h2 n : Nat} {base : Int} {mem mem' : Nat → Int} {F1 F2 S : Nat → Prop}
theorem Duo.below (d : Duo W w h1 h2 base n mem F1 F2) (b : Below w.heap.size w w') : Duo W w' h1 h2 base n mem F1 F2 :=
  ⟨d.one.below b, d.two.below b, d.apart, d.new, d.mod.trans (Mod.of_below b Nil)⟩
theorem Duo.drawn (d : Duo W w h1 h2 base n mem F1 F2) (b : ∃ k, w' = w.drewN k) : Duo W w' h1 h2 base n mem F1 F2 := d.below (below_drawn b)
theorem Duo.out (d : Duo W w h1 h2 base n mem F1 F2) : Below W.heap.size W w := d.mod.below
/-- Something newer beside them is turned. -/
theorem Duo.other (d : Duo W w h1 h2 base n mem F1 F2) (m : Mod S w w') (hs : ∀ k, F1 k ∨ F2 k → ¬ S k) (hn : ∀ k, S k → W.heap.size ≤ k) : Duo W w' h1 h2 base n mem F1 F2 :=
  ⟨d.one.mod m fun k h => hs k (.inl h), d.two.mod m fun k h => hs k (.inr h), d.apart, d.new, d.mod.trans_new m fun i hi h => by have := hn i h; omega⟩
theorem Duo.bound (d : Duo W w h1 h2 base n mem F1 F2) : ∀ k, F1 k ∨ F2 k → k < w.heap.size := fun k h => h.elim (d.one.bound k) (d.two.bound k)
theorem Duo.made {w1 w2 : World} (m0 : Mod Nil W w) (r1 : Ram w1 h1 base n mem (Grow Nil w w1)) (m1 : Mod Nil w w1) (r2 : Ref.Mem w2 h2 base n mem (Grow Nil w1 w2)) (m2 : Mod Nil w1 w2) : Duo W w2 h1 h2 base n mem (Grow Nil w w1) (Grow Nil w1 w2) :=
  ⟨r1.mod m2 (fun _ _ h => h), r2, fun k h1 h2 => by
      have := r1.bound k h1
      rcases h2 with h2 | h2
      · exact h2
      · omega, fun k h => by
      have := m0.size
      have := m1.size
      rcases h with (h | h) | (h | h)
      · exact h.elim
      · omega
      · exact h.elim
      · omega, (m0.trans m1).trans m2⟩
/-- The first is turned, then the second. -/
theorem Duo.step {w1 w2 : World} (d : Duo W w h1 h2 base n mem F1 F2) (r1 : Ram w1 h1 base n mem' (Grow F1 w w1)) (m1 : Mod F1 w w1) (r2 : Ref.Mem w2 h2 base n mem' (Grow F2 w1 w2)) (m2 : Mod F2 w1 w2) : Duo W w2 h1 h2 base n mem' (Grow F1 w w1) (Grow F2 w1 w2) :=
  ⟨r1.mod m2 (fun k a b => by
      have := d.two.bound k b
      rcases a with a | a
      · exact d.apart k a b
      · omega), r2, fun k a b => by
      have hb := r1.bound k a
      rcases a with a | a <;> rcases b with b | b
      · exact d.apart k a b
      · omega
      · have := d.two.bound k b; omega
      · omega, fun k h => by
      have := d.mod.size
      have := m1.size
      rcases h with (h | h) | (h | h)
      · exact d.new k (.inl h)
      · omega
      · exact d.new k (.inr h)
      · omega, (d.mod.trans_new m1 fun i hi h => by have := d.new i (.inl h); omega).trans_new m2 fun i hi h => by have := d.new i (.inr h); omega⟩
end
theorem write_z {W : World} {h n : Nat} {base : Int} {mem : Nat → Int} {F : Nat → Prop} (r : Ram W h base n mem F) (addr v z : Int) (s : Nat) (hz : z = s) (ha : 0 ≤ addr ∧ addr < 18446744073709551616) (hv : 0 ≤ v ∧ v < 18446744073709551616) (h1 : wholeB s = true) (h2 : hasB base n addr s = true) :
    Calls Tryz.prog 46 #[.pointer (some ⟨h, 0, none⟩), .int .u64 addr, .int .i64 z, .int .u64 v] W fun e W' => e = .returned (.bool true) ∧ Ram W' h base n (wr mem (addr - base).toNat s v) (Grow F W W') ∧ Mod F W W' := by subst hz; exact write_yes r addr v s ha hv h1 h2
theorem rwrite_z {W : World} {h n : Nat} {base : Int} {mem : Nat → Int} {F : Nat → Prop} (r : Ref.Mem W h base n mem F) (addr v z : Int) (s : Nat) (hz : z = s) (ha : 0 ≤ addr ∧ addr < 18446744073709551616) (hv : 0 ≤ v ∧ v < 18446744073709551616) (h1 : wholeB s = true) (h2 : hasB base n addr s = true) :
    Calls Tryz.prog 29 #[.pointer (some ⟨h, 0, none⟩), .int .u64 addr, .int .i64 z, .int .u64 v] W fun e W' => e = .returned (.bool true) ∧ Ref.Mem W' h base n (wr mem (addr - base).toNat s v) (Grow F W W') ∧ Mod F W W' := by subst hz; exact Ref.write_yes r addr v s ha hv h1 h2
set_option maxHeartbeats 1000000 in
theorem wboth {W w : World} {h1 h2 n : Nat} {base : Int} {mem : Nat → Int} {F1 F2 : Nat → Prop} (d : Duo W w h1 h2 base n mem F1 F2) (addr v : Int) (ha : 0 ≤ addr ∧ addr < 18446744073709551616) (hv : 0 ≤ v ∧ v < 18446744073709551616) (hh : hasB base n addr 8 = true) :
    Calls Tryz.prog 28 #[.agg #[.pointer (some ⟨h1, 0, none⟩), .pointer (some ⟨h2, 0, none⟩)], .int .u64 addr, .int .i64 8, .int .u64 v] w fun e w' => e = .returned (.tuple #[]) ∧ ∃ F1' F2', Duo W w' h1 h2 base n (wr mem (addr - base).toNat 8 v) F1' F2' ∧ (∀ k, k < w.heap.size → F1' k → F1 k) ∧ (∀ k, k < w.heap.size → F2' k → F2 k) ∧ Mod (fun k => F1 k ∨ F2 k) w w' := by
  have D := Lib.hid d
  have P1 := Lib.hid (fun (w1 : World) (r : Ram w1 h1 base n mem F1) => write_z r addr v 8 8 rfl ha hv (by decide) hh)
  have P2 := Lib.hid (fun (w1 : World) (r : Ref.Mem w1 h2 base n mem F2) => rwrite_z r addr v 8 8 rfl ha hv (by decide) hh)
  have hu := Tryz.underlying40
  clear d ha hv hh
  go_enter Tryz.func28, Tryz.ntmps28
  go_wp2_with (first
    | ((with_reducible refine Step.gate_box (t := 40) rfl ?_); refine Step.fresh (cs := #[.pointer (some ⟨h1, 0, none⟩), .pointer (some ⟨h2, 0, none⟩)]) (T := 40) rfl ?hr ?_; (case hr => first | (go_simp; done) | (go_simp; rfl)); intro g w2 b hg hb; have c0 := b.cell 0; have B := Lib.hid b; have D2 := Lib.hid (D.out.below hb); have HB := Lib.hid hb; have HG := Lib.hid hg; simp only [List.getElem?_toArray, List.getElem?_cons_zero] at c0; clear b hg hb)
    | (go_at_call 46; refine (P1.out _ D2.out.one).mono ?_; rintro e w3 ⟨rfl, r, m⟩; have R1 := Lib.hid r; have M1 := Lib.hid m; have c1 := (((B.out.mod m (fun hf => by have := D.out.bound g (.inl hf); have := HG.out; omega)).cell 1)); have r2 := Lib.hid (D2.out.two.mod m (fun k h2 h1 => D.out.apart k h1 h2)); simp only [List.getElem?_toArray, List.getElem?_cons_zero, List.getElem?_cons_succ] at c1; clear r m)
    | (go_at_call 29; refine (P2.out _ r2.out).mono ?_; rintro e w4 ⟨rfl, r, m⟩; have R2 := Lib.hid r; have M2 := Lib.hid m; clear r m))
  go_end0
  have dd := D2.out.step R1.out M1.out R2.out M2.out
  have hs := HB.out.size
  refine ⟨rfl, _, _, dd, fun k hk h => h.elim id fun h => by omega, fun k hk h => h.elim id fun h => by have := M1.out.size; omega, ?_⟩
  refine ((Mod.of_below HB.out _).trans (M1.out.mono fun k _ h => .inl h)).trans (M2.out.mono fun k _ h => .inr h)
end Go.Proofs.YthkodjkkcgdmfaaGreat.Duo
end
section
namespace Go.Proofs.YthkodjkkcgdmfaaGreat.Duo
open Go Go.RowKit Go.Proofs.YthkodjkkcgdmfaaGreat.Step Go.Proofs.YthkodjkkcgdmfaaGreat.Mem
set_option linter.unusedVariables false
set_option linter.unusedSimpArgs false
set_option maxRecDepth 100000
/-- A slice's cells: the place and the number of each. -/
def RdC (W : World) (A : Option Addr) (n : Nat) (f : Nat → Int × Int) (G : Nat → Prop) : Prop :=
  ∀ i, i < n → ∃ ad, A = some ad ∧ G ad.block ∧ W.cell? (ad.add (i * 2)) = some (.int .i64 (f i).1) ∧ W.cell? (ad.add (i * 2 + 1)) = some (.int .u64 (f i).2) ∧ (-9223372036854775808 ≤ (f i).1 ∧ (f i).1 < 9223372036854775808) ∧ (0 ≤ (f i).2 ∧ (f i).2 < 18446744073709551616)
/-- What a memory of so many frames holds when cells have been written into it. -/
def cm (n : Nat) (f : Nat → Int × Int) : Nat → Nat → Int
  | 0 => fun _ => 0
  | k + 1 => wr (cm n f k) (8 * ((f k).1 % ((512 * n : Nat) : Int))).toNat 8 (f k).2
theorem block_add (a : Addr) (k : Nat) : (a.add k).block = a.block := by unfold Addr.add; split <;> rfl
theorem addr_snd (a : Addr) (m : Nat) : (⟨(a.add m).block, (a.add m).off + 1, none⟩ : Addr) = a.add (m + 1) := by
  unfold Addr.add
  by_cases h : m = 0 <;> simp [h, Nat.add_assoc]
theorem RdC.mod {W W' : World} {A : Option Addr} {n : Nat} {f : Nat → Int × Int} {G S : Nat → Prop} (r : RdC W A n f G) (m : Mod S W W') (hs : ∀ k, G k → ¬ S k) (hG : ∀ k, G k → k < W.heap.size) : RdC W' A n f G := fun i hi => by
  obtain ⟨ad, e, g, h0, h1, h2⟩ := r i hi
  exact ⟨ad, e, g, (World.cell?_of_block (m.block _ (by rw [block_add]; exact hG _ g) (by rw [block_add]; exact hs _ g))).trans h0, (World.cell?_of_block (m.block _ (by rw [block_add]; exact hG _ g) (by rw [block_add]; exact hs _ g))).trans h1, h2⟩
theorem RdC.wide {W : World} {A : Option Addr} {n : Nat} {f : Nat → Int × Int} {G G' : Nat → Prop} (r : RdC W A n f G) (h : ∀ k, G k → G' k) : RdC W A n f G' := fun i hi => by
  obtain ⟨ad, e, g, h2⟩ := r i hi
  exact ⟨ad, e, h _ g, h2⟩
/-- The eight bytes of a number, written. -/
def wr_ (mem : Nat → Int) (o : Nat) (v : Int) : Nat → Int := wr mem o 8 v
theorem results_row_tmp {P : Program} {fn : Func} {p u : Tmp} {ty : TypeId} (h : fn.results = #[.cell p ty, .tmp u]) (tmps : Array Value) (w : World) (g : Nat) (t : TypeId) (cs : Array Value) (d : TypeDesc)
    (hp : tmps.getD p undef = .pointer (some ⟨g, 0, none⟩)) (hg : Blk w g cs t) (hu : P.underlying ty = some d) (hd : (match d with | .struct _ | .array _ _ => true | _ => false) = true) (hi : (P.info? ty).map (·.size) = some cs.size) :
    (results fn tmps).run P w = .ok (.tuple #[.agg cs, tmps.getD u undef]) w := by
  rw [results_cell_tmp h, hp]
  have h2 := run_loadVar_row (P := P) w g t ty cs (0, 0) d hg.out hu hd hi
  simp [asAddr, Result.andThen, h2]
theorem zero_two : (Tryz.prog.info? 40).bind (·.zero) = some (.agg #[.pointer none, .pointer none]) := by kernel_rfl
theorem alloc_agg {t : TypeId} {cs : Array Value} (h : (Tryz.prog.info? t).bind (·.zero) = some (.agg cs)) (W : World) : (Instr.alloc t true (.tuple #[])).run Tryz.prog W = .ok (.pointer (some ⟨W.heap.size, 0, none⟩)) (W.alloc (.cells cs t (0, 0))) := by
  cases hi : Tryz.prog.info? t with
  | none => rw [hi] at h; cases h
  | some i =>
    rw [hi] at h
    have hz : i.zero = some (.agg cs) := h
    simp [Instr.alloc, zeroValue, typeInfo, hi, hz, newVar, newRow, newObj, Result.andThen, Value.cells, go_sem]
    rfl
theorem new_z (w : World) (base z : Int) (n : Nat) (hz : z = n) (hb : 0 ≤ base ∧ base < 18446744073709551616) (h : newB base n = true) :
    Calls Tryz.prog 55 #[.int .u64 base, .int .i64 z] w fun e W' => ∃ h, e = .returned (.tuple #[.pointer (some ⟨h, 0, none⟩), .int .i64 0]) ∧ Ram W' h base n (fun _ => 0) (Grow Nil w W') ∧ Mod Nil w W' := by subst hz; exact new_yes w base n hb h
theorem rnew_z (w : World) (base z : Int) (n : Nat) (hz : z = n) (hb : 0 ≤ base ∧ base < 18446744073709551616) (h : newB base n = true) :
    Calls Tryz.prog 56 #[.int .u64 base, .int .i64 z] w fun e W' => ∃ h, e = .returned (.tuple #[.pointer (some ⟨h, 0, none⟩), .int .i64 0]) ∧ Ref.Mem W' h base n (fun _ => 0) (Grow Nil w W') ∧ Mod Nil w W' := by subst hz; exact Ref.new_yes w base n hb h
theorem size_two : (Tryz.prog.info? 40).map (·.size) = some 2 := by kernel_rfl
set_option maxHeartbeats 4000000 in
theorem memory_any (W : World) (base z : Int) (n : Nat) (hz : z = n) (hb : 0 ≤ base ∧ base < 18446744073709551616) (hn : newB base n = true) (A : Option Addr) (len cap : Nat) (f : Nat → Int × Int) (r : RdC W A len f (· < W.heap.size)) (hl : len ≤ 9223372036854775807) :
    Calls Tryz.prog 35 #[.int .u64 base, .int .i64 z, .slice A len cap] W fun e w' => ∃ h1 h2 F1 F2, e = .returned (.tuple #[.agg #[.pointer (some ⟨h1, 0, none⟩), .pointer (some ⟨h2, 0, none⟩)], .bool true]) ∧ Duo W w' h1 h2 base n (cm n f len) F1 F2 := by
  obtain ⟨n1, n2, nb, b2⟩ := of_decide_eq_true hn
  obtain ⟨b0, b1⟩ := hb
  have T1 := Lib.hid (fun w => new_z w base z n hz ⟨b0, b1⟩ hn)
  have T2 := Lib.hid (fun w => rnew_z w base z n hz ⟨b0, b1⟩ hn)
  have R := Lib.hid r
  have Z := Lib.hid hz
  have HL := Lib.hid hl
  have hu := Tryz.underlying40
  have w512 : IntKind.i64.wrap (512 * z) = 512 * n := by rw [hz]; exact IntWalk.i64_in _ (by omega)
  clear r hn hl hz nb
  go_enter Tryz.func35, Tryz.ntmps35
  go_wp2_with (first
    | ((with_reducible refine Step.gate_alloc (t := 40) rfl ?_); refine Step.freshAlloc rfl rfl (alloc_agg zero_two) ?_; (first
        | (have this := Lib.hid D0; intro g12 w4 b hg hb; have B12 := Lib.hid b; have B6c := Lib.hid (B6.out.below hb); have D1 := Lib.hid (D0.out.below hb); have HG12 := Lib.hid hg; clear b hg hb this)
        | (intro g6 w1 b hg hb; have B6a := Lib.hid b; have HB6 := Lib.hid hb; have HG6 := Lib.hid hg; clear b hg hb)))
    | (go_at_call 55; refine (T1.out _).mono ?_; rintro e w2 ⟨h1, rfl, r, m⟩; have R1 := Lib.hid r; have M1 := Lib.hid m; have B6b := Lib.hid (B6a.out.mod m (fun h => h)); clear r m)
    | (go_at_call 56; refine (T2.out _).mono ?_; rintro e w3 ⟨h2, rfl, r, m⟩; have D0 := Lib.hid (Duo.made (Mod.of_below HB6.out Nil) R1.out M1.out r m); have B6 := Lib.hid (B6b.out.mod m (fun h => h)); have L6 := Lib.hid (show ∀ k, Grow Nil w1 w2 k ∨ Grow Nil w2 w3 k → k ≠ g6 from fun k h e => by subst e; have := B6a.out.lt; have := M1.out.size; rcases h with (h | h) | (h | h) <;> first | exact h | omega); clear r m)
    | ((with_reducible refine Step.gate_store (t := 40) rfl ?_); refine Step.storeAll (vs := #[.pointer (some ⟨h1, 0, none⟩), .pointer (some ⟨h2, 0, none⟩)]) B12.out rfl rfl rfl rfl rfl size_two rfl rfl ?_; intro w5 nb m; have N12 := Lib.hid nb; have N6 := Lib.hid (B6c.out.one m (by have := B6.out.lt; have := HG12.out; omega)); have D2 := Lib.hid (D1.out.other m (fun k h e => by obtain rfl : k = g12 := e; have := D0.out.bound k h; have := HG12.out; omega) (fun k e => by obtain rfl : k = g12 := e; have := HG12.out; have := D0.out.mod.size; omega)); have L12 := Lib.hid (show ∀ k, Grow Nil w1 w2 k ∨ Grow Nil w2 w3 k → k ≠ g12 from fun k h e => by subst e; have := D0.out.bound k h; have := HG12.out; omega); clear nb m))
  have G12 := Lib.hid (show W.heap.size ≤ g12 from by have := HG12.out; have := D0.out.mod.size; omega)
  have NE := Lib.hid (show g6 ≠ g12 from by have := B6.out.lt; have := HG12.out; omega)
  obtain ⟨F1, F2, hD, hL6, hL12⟩ : ∃ F1 F2, Duo W w5 h1 h2 base n (cm n f 0) F1 F2 ∧ (∀ k, F1 k ∨ F2 k → k ≠ g6) ∧ (∀ k, F1 k ∨ F2 k → k ≠ g12) := ⟨_, _, D2.out, L6.out, L12.out⟩
  have DD := Lib.hid hD
  have LL6 := Lib.hid hL6
  have LL12 := Lib.hid hL12
  clear hD hL6 hL12 D0 D1 D2 L6 L12 R1 M1 B6 B6a B6b B6c B12 HG12 HB6
  go_loopw [13] (fun i w => ∃ k : Nat, k ≤ len ∧ i = .int .i64 k ∧ Blk w g12 #[.pointer (some ⟨h1, 0, none⟩), .pointer (some ⟨h2, 0, none⟩)] 40 ∧ Blk w g6 #[.pointer none, .pointer none] 40 ∧ ∃ F1 F2, Duo W w h1 h2 base n (cm n f k) F1 F2 ∧ (∀ k, F1 k ∨ F2 k → k ≠ g6) ∧ (∀ k, F1 k ∨ F2 k → k ≠ g12)) (fun i _ => (len - intOf i).toNat)
  case atStart => exact ⟨0, Nat.zero_le _, rfl, N12.out, N6.out, F1, F2, DD.out, LL6.out, LL12.out⟩
  case round =>
    clear DD LL6 LL12 N12 N6 F1 F2
    obtain ⟨k, hk, rfl, hB12, hB6, F1, F2, hD, hL6, hL12⟩ := hrel
    have DK := Lib.hid hD
    have K12 := Lib.hid hB12
    have K6 := Lib.hid hB6
    have LK6 := Lib.hid hL6
    have LK12 := Lib.hid hL12
    clear hD hB12 hB6 hL6 hL12
    by_cases hlt : k < len
    · obtain ⟨ad, rfl, hab, hc0, hc1, hv0, hv1⟩ := (R.out.mod DK.out.mod (fun k hk h => h) (fun k hk => hk)) k hlt
      obtain ⟨q, hq⟩ := Int.eq_ofNat_of_zero_le (show 0 ≤ (f k).1 % ((512 * n : Nat) : Int) from Int.emod_nonneg _ (by omega))
      have hq2 : (q : Int) < 512 * n := by have := Int.emod_lt_of_pos (f k).1 (show (0 : Int) < ((512 * n : Nat) : Int) by omega); omega
      have TP := Lib.hid (fun w => (place_any (f k).1 (512 * n) (by omega) hv0 (by omega) w).mono fun e w' h => (by rw [show (512 * n : Int) = ((512 * n : Nat) : Int) by omega, hq] at h; exact h : e = .returned (.int .i64 q) ∧ w = w'))
      have q1 : IntKind.u64.wrap (q : Int) = q := IntWalk.u64_in _ (by omega)
      have q2 : IntKind.u64.wrap (8 * (q : Int)) = 8 * q := IntWalk.u64_in _ (by omega)
      have q3 : IntKind.u64.wrap (base + 8 * (q : Int)) = base + 8 * q := IntWalk.u64_in _ (by omega)
      have TW := Lib.hid (fun w (hw : Below wr.heap.size wr w) => wboth (DK.out.below hw) (base + 8 * q) (f k).2 (by omega) hv1 (decide_eq_true (by omega)))
      have CM := Lib.hid (show cm n f (k + 1) = wr_ (cm n f k) (base + 8 * q - base).toNat (f k).2 from by show Mem.wr (cm n f k) (8 * ((f k).1 % ((512 * n : Nat) : Int))).toNat 8 (f k).2 = _; rw [hq]; unfold wr_; congr 1; omega)
      have LB := Lib.hid (show ad.block < wr.heap.size from by have := DK.out.mod.size; omega)
      have NA := Lib.hid (show ¬ (F1 ad.block ∨ F2 ad.block) from fun h => by have := DK.out.new _ h; omega)
      generalize (f k).1 = v0 at hc0 TP hq
      generalize (f k).2 = v1 at hc1 TW CM
      have e1 : ad.add (k * 2) = (ad.add (k * 2)) := rfl
      rw [← addr_snd] at hc1
      have cB := K12.out.cell 0
      have cC := K12.out.cell 1
      simp only [List.getElem?_toArray, List.getElem?_cons_zero, List.getElem?_cons_succ] at cB cC
      clear hv0 hv1 hq hq2 e1
      go_wp2
      go_region_held3 (fun w' => w'.cell? ⟨g12, 0, none⟩ = some (.pointer (some ⟨h1, 0, none⟩)) ∧ w'.cell? ⟨g12, 1, none⟩ = some (.pointer (some ⟨h2, 0, none⟩)) ∧ w'.cell? (ad.add (k * 2)) = some (.int .i64 v0) ∧ w'.cell? ⟨(ad.add (k * 2)).block, (ad.add (k * 2)).off + 1, none⟩ = some (.int .u64 v1))
        (first
          | exact ⟨cB, cC, hc0, hc1⟩
          | exact ⟨(World.cell?_of_block (w := wr) (hm.block g12 K12.out.lt (fun h => LK12.out _ h rfl))).trans cB, (World.cell?_of_block (w := wr) (hm.block g12 K12.out.lt (fun h => LK12.out _ h rfl))).trans cC, (World.cell?_of_block (w := wr) (hm.block _ (by rw [block_add]; exact LB.out) (by rw [block_add]; exact NA.out))).trans hc0, (show w9.cell? ⟨(ad.add (k * 2)).block, (ad.add (k * 2)).off + 1, none⟩ = wr.cell? ⟨(ad.add (k * 2)).block, (ad.add (k * 2)).off + 1, none⟩ from World.cell?_of_block (hm.block (ad.add (k * 2)).block (by rw [block_add]; exact LB.out) (by rw [block_add]; exact NA.out))).trans hc1⟩)
        (first
          | ((with_reducible refine (TP.out _).mono ?_); rintro e w8 ⟨rfl, rfl⟩)
          | ((with_reducible refine (TW.out _ (Below.drew (Below.refl _ _))).mono ?_); rintro e w9 ⟨rfl, F1', F2', hd, hf1, hf2, hm⟩))
      rename_i hHeld
      have HM := Lib.hid (show Mod (fun k => F1 k ∨ F2 k) wr w9 from ⟨hm.os, hm.tape, hm.output, hm.size, hm.block⟩)
      have HD := Lib.hid hd
      have HF1 := Lib.hid hf1
      have HF2 := Lib.hid hf2
      clear hHeld hm hd hf1 hf2 cB cC hc0 hc1
      have hlen := HL.out
      go_wp2
      refine ⟨⟨k + 1, by omega, by go_num, K12.out.mod HM.out (fun h => LK12.out _ h rfl), K6.out.mod HM.out (fun h => LK6.out _ h rfl), F1', F2', CM.out ▸ HD.out, fun j h e => ?_, fun j h e => ?_⟩, by simp [intOf]; omega⟩
      · subst e
        exact LK6.out j (h.elim (fun h => .inl (HF1.out j K6.out.lt h)) fun h => .inr (HF2.out j K6.out.lt h)) rfl
      · subst e
        exact LK12.out j (h.elim (fun h => .inl (HF1.out j K12.out.lt h)) fun h => .inr (HF2.out j K12.out.lt h)) rfl
    · obtain rfl : k = len := by omega
      have cB := K12.out.cell 0
      have cC := K12.out.cell 1
      simp only [List.getElem?_toArray, List.getElem?_cons_zero, List.getElem?_cons_succ] at cB cC
      go_wp2_with (first
        | ((with_reducible refine Step.gate_store (t := 40) rfl ?_); refine Step.storeAll (vs := #[.pointer (some ⟨h1, 0, none⟩), .pointer (some ⟨h2, 0, none⟩)]) K6.out rfl rfl rfl rfl rfl size_two rfl rfl ?_; intro w7 nb m; have N6 := Lib.hid nb; have D7 := Lib.hid (DK.out.other m (fun k h e => LK6.out _ h e) (fun k e => by obtain rfl : k = g6 := e; exact HG6.out)); clear nb m))
      refine bodyPost_ret (results_row_tmp rfl _ _ g6 _ _ _ rfl N6.out hu rfl size_two) rfl ⟨h1, h2, F1, F2, rfl, D7.out⟩
end Go.Proofs.YthkodjkkcgdmfaaGreat.Duo
end
section
namespace Go.Proofs.YthkodjkkcgdmfaaGreat.Mem
open Go Go.RowKit Go.Proofs.YthkodjkkcgdmfaaGreat.Step
set_option linter.unusedVariables false
set_option linter.unusedSimpArgs false
set_option maxRecDepth 100000
/-- The bytes as a list of cells. -/
def lst (n : Nat) (f : Nat → Int) : List Value := (List.range n).map fun k => .int .u8 (f k)
theorem lst_len (n : Nat) (f : Nat → Int) : (lst n f).length = n := by simp [lst]
theorem lst_at (n : Nat) (f : Nat → Int) {k : Nat} (h : k < n) : (lst n f)[k]? = some (.int .u8 (f k)) := by simp [lst, h]
theorem lst_one (n : Nat) (f : Nat → Int) : ∀ u ∈ lst n f, u.oneCell' = true := by
  intro u hu
  obtain ⟨k, _, rfl⟩ := List.mem_map.1 hu
  rfl
theorem info_u8 : ∃ i, Tryz.prog.info? 5 = some i ∧ i.size = 1 ∧ i.bytes = 1 ∧ i.zero = some (.int .u8 0) := by
  have h := mk_u8
  cases hi : Tryz.prog.info? 5 with
  | none => rw [hi] at h; cases h
  | some i =>
    rw [hi] at h
    simp only [Option.map_some, Option.some.injEq, Prod.mk.injEq] at h
    exact ⟨i, rfl, h⟩
/-- An argument's bytes, nil or not. -/
structure Arg (W : World) (A : Option Addr) (n c : Nat) (f : Nat → Int) (G : Nat → Prop) : Prop where
  rd : Rd W A n f G
  nil_ : A = none → n = 0 ∧ c = 0
set_option maxHeartbeats 1000000 in
theorem copyBytes_any {W : World} {A : Option Addr} {n c : Nat} {f : Nat → Int} {G : Nat → Prop} (r : Arg W A n c f G) (hn : n ≤ 140737488355328) :
    Calls Tryz.prog 81 #[.slice A n c] W fun e W' => ∃ v, e = .returned v ∧ W'.ownsRow W.heap.size 5 1 v n (lst n f) ∧ Below W.heap.size W W' := by
  obtain ⟨i, hi, hs, hb, hz⟩ := info_u8
  have R := Lib.hid r
  have HI := Lib.hid hi
  have HS := Lib.hid hs
  have HB := Lib.hid hb
  have HZ := Lib.hid hz
  clear hi hs hb hz r
  cases A with
  | none =>
    obtain ⟨rfl, rfl⟩ := R.out.nil_ rfl
    go_enter Tryz.func81, Tryz.ntmps81
    go_wp2
    go_ret
    exact ⟨_, rfl, World.ownsRow_nil _ _ _ _, Below.refl _ _⟩
  | some ad =>
    go_enter Tryz.func81, Tryz.ntmps81
    go_wp2_with ((with_reducible refine wpList_append_own (w := W) rfl _ _ 66 rfl W.heap.size 5 i _ 1 1 Tryz.underlying66 HI.out HZ.out HS.out HB.out rfl (by omega) (.slice none 0 0) 0 [] rfl (World.ownsRow_nil _ _ _ _) ad n c (lst n f) rfl ?h1 ?h2 (lst_one _ _) ?h3 ?h4 (Nat.le_refl _) ?_); rotate_right; intro v' w' own' grow' hv; have OW := Lib.hid own'; have GR := Lib.hid grow'; clear own' grow' hv)
    case h1 => rw [lst_len, Nat.mul_one]
    case h2 =>
      intro j u hu
      have hj : j < n := by have := (List.getElem?_eq_some_iff.1 hu).1; rwa [lst_len] at this
      rw [lst_at n f hj] at hu
      obtain ⟨ad', e, _, hc, _⟩ := R.out.rd j hj
      obtain rfl := Option.some.inj e
      rw [hc]; exact hu
    case h3 => unfold maxLen; omega
    case h4 => omega
    go_ret
    refine ⟨_, rfl, ?_, (Below.refl _ _).grown GR.out (Nat.le_refl _) (fun k hk => by cases hk)⟩
    have := OW.out
    rwa [Nat.zero_add, List.nil_append] at this
end Go.Proofs.YthkodjkkcgdmfaaGreat.Mem
end
section
namespace Go.Proofs.YthkodjkkcgdmfaaGreat.Hart
open Go Go.RowKit Go.Proofs.YthkodjkkcgdmfaaGreat.Step Go.Proofs.YthkodjkkcgdmfaaGreat.Enc Go.Proofs.YthkodjkkcgdmfaaGreat.Kn
open Go.Proofs.YthkodjkkcgdmfaaGreat.Mem (Ram Grow hasB wholeB num wr Rd fl Arg lst)
open Go.Proofs.YthkodjkkcgdmfaaGreat.Duo (Duo)
set_option linter.unusedVariables false
set_option linter.unusedSimpArgs false
set_option maxRecDepth 100000
set_option maxHeartbeats 1000000 in
theorem tlb_new8 (W : World) : Calls Tryz.prog 36 #[.int .i64 8] W fun e w' => ∃ g, e = .returned (.tuple #[.pointer (some ⟨g, 0, none⟩), .int .i64 0]) ∧ W.heap.size ≤ g ∧ Blk w' g #[.int .i64 8, .slice none 0 0] 115 ∧ Below W.heap.size W w' := by
  go_enter Tryz.func36, Tryz.ntmps36
  have ST := Lib.hid (Kn.nil (S := Step.Nil) (W := W))
  go_wp2_with (((with_reducible refine Step.gate_box (t := 115) rfl ?_); refine Step.fresh (cs := #[.int .i64 8, .slice none 0 0]) (T := 115) rfl ?hr ?_; (case hr => first | (go_simp; done) | (go_simp; rfl)); intro g1 w1 b hg hb; replace ST := Lib.hid (ST.out.made b hg hb); clear b hb; have HG := Lib.hid hg; clear hg))
  refine bodyPost_ret (results_tmp2 rfl _ _ _) rfl ?_
  exact ⟨g1, rfl, HG.out, ST.out.at0, ST.out.below⟩
set_option maxHeartbeats 1000000 in
theorem rtlb_new8 (W : World) : Calls Tryz.prog 50 #[.int .i64 8] W fun e w' => ∃ g, e = .returned (.tuple #[.pointer (some ⟨g, 0, none⟩), .int .i64 0]) ∧ W.heap.size ≤ g ∧ Blk w' g #[.int .i64 8, .slice none 0 0] 145 ∧ Below W.heap.size W w' := by
  go_enter Tryz.func50, Tryz.ntmps50
  have ST := Lib.hid (Kn.nil (S := Step.Nil) (W := W))
  go_wp2_with (((with_reducible refine Step.gate_box (t := 145) rfl ?_); refine Step.fresh (cs := #[.int .i64 8, .slice none 0 0]) (T := 145) rfl ?hr ?_; (case hr => first | (go_simp; done) | (go_simp; rfl)); intro g1 w1 b hg hb; replace ST := Lib.hid (ST.out.made b hg hb); clear b hb; have HG := Lib.hid hg; clear hg))
  refine bodyPost_ret (results_tmp2 rfl _ _ _) rfl ?_
  exact ⟨g1, rfl, HG.out, ST.out.at0, ST.out.below⟩
set_option maxHeartbeats 1000000 in
theorem core_new (W : World) (gm gt : Nat) : Calls Tryz.prog 37 #[.pointer (some ⟨gm, 0, none⟩), .pointer (some ⟨gt, 0, none⟩)] W fun e w' => ∃ g, e = .returned (.pointer (some ⟨g, 0, none⟩)) ∧ W.heap.size ≤ g ∧ Blk w' g (ccg gm (.pointer (some ⟨gt, 0, none⟩)) 0 0 0 0 (.map none)) TC ∧ Below W.heap.size W w' := by
  go_enter Tryz.func37, Tryz.ntmps37
  have ST := Lib.hid (Kn.nil (S := Step.Nil) (W := W))
  go_wp2_with (((with_reducible refine Step.gate_box (t := 129) rfl ?_); refine Step.fresh (cs := ccg gm (.pointer (some ⟨gt, 0, none⟩)) 0 0 0 0 (.map none)) (T := 129) rfl ?hr ?_; (case hr => first | (go_simp; done) | (go_simp; rfl)); intro g1 w1 b hg hb; replace ST := Lib.hid (ST.out.made b hg hb); clear b hb; have HG := Lib.hid hg; clear hg))
  go_ret
  exact ⟨g1, rfl, HG.out, ST.out.at0, ST.out.below⟩
set_option maxHeartbeats 1000000 in
theorem enter_any {W : World} {g gm : Nat} {tv km : Value} {r0 v0 done st : Int} (hb : Blk W g (ccg gm tv r0 v0 done st km) TC) (root vmid : Int) : Calls Tryz.prog 54 #[.pointer (some ⟨g, 0, none⟩), .int .u64 root, .int .i64 vmid] W fun e w' => e = .returned (.tuple #[]) ∧ Blk w' g (ccg gm tv root vmid done st km) TC ∧ Mod (One g) W w' := by
  go_enter Tryz.func54, Tryz.ntmps54
  have ST := Lib.hid (Kn.start (S := One g) hb rfl)
  clear hb
  go_wp2_with (first
    | ((with_reducible refine Step.gate_store (t := 22) rfl ?_); refine Step.store ST.out.at0 rfl rfl rfl rfl rfl pl_u64 rfl rfl ?_; intro w3 nb m; replace ST := Lib.hid (ST.out.set0 nb m); clear nb m)
    | ((with_reducible refine Step.gate_store (t := 3) rfl ?_); refine Step.store ST.out.at0 rfl rfl rfl rfl rfl pl_int rfl rfl ?_; intro w3 nb m; replace ST := Lib.hid (ST.out.set0 nb m); clear nb m))
  all_goals (first | go_ret | go_end0 | refine bodyPost_ret (results_none rfl _ _ _) rfl ?_)
  exact ⟨rfl, ST.out.at0, ST.out.mod⟩
theorem pl_pr3 : Step.plainT Tryz.prog 38 = true := by kernel_rfl
theorem own_rd {w : World} {b m : Nat} {v : Value} {f : Nat → Int} (h : w.ownsRow b 5 1 v m (lst m f)) (hf : ∀ k, k < m → 0 ≤ f k ∧ f k < 256) : ∃ A cap, v = .slice A m cap ∧ Rd w A m f (fun k => b ≤ k ∧ k < w.heap.size) := by
  obtain ⟨_, ⟨rfl, rfl⟩ | ⟨g, cap, cur, rfl, hb, ho, hn, hc, hs, ht⟩⟩ := h
  · exact ⟨none, 0, rfl, fun k hk => absurd hk (Nat.not_lt_zero k)⟩
  · refine ⟨some ⟨g, 0, none⟩, cap, rfl, fun k hk => ⟨_, rfl, ⟨hb, (Array.getElem?_eq_some_iff.1 ho).1⟩, ?_, hf k hk⟩⟩
    have h1 := Mem.lst_at m f hk
    rw [← ht, List.getElem?_take, if_pos (by omega)] at h1
    have e : (⟨g, 0, none⟩ : Addr).add k = ⟨g, k, none⟩ := by unfold Addr.add; split <;> simp_all
    rw [e]
    exact ((⟨ho⟩ : Blk w g cur 5).cell k).trans (by simpa using h1)
set_option maxHeartbeats 2000000 in
theorem fboth {W w : World} {h1 h2 n s c : Nat} {base : Int} {mem : Nat → Int} {F1 F2 G : Nat → Prop} {A : Option Addr} {f : Nat → Int} (d : Duo W w h1 h2 base n mem F1 F2) (r : Arg w A s c f G) (hG : ∀ k, G k → ¬ F1 k ∧ ¬ F2 k ∧ k < w.heap.size) (hs : s ≤ 140737488355328) (hf : ∀ k, k < s → 0 ≤ f k ∧ f k < 256) (addr : Int) (ha : 0 ≤ addr ∧ addr < 18446744073709551616) (hh : hasB base n addr s = true) :
    Calls Tryz.prog 51 #[.agg #[.pointer (some ⟨h1, 0, none⟩), .pointer (some ⟨h2, 0, none⟩)], .int .u64 addr, .slice A s c] w fun e w' => e = .returned (.tuple #[]) ∧ ∃ F1' F2', Duo W w' h1 h2 base n (fl mem (addr - base).toNat s f) F1' F2' ∧ (∀ k, k < w.heap.size → F1' k → F1 k) ∧ (∀ k, k < w.heap.size → F2' k → F2 k) ∧ Mod (fun k => F1 k ∨ F2 k) w w' := by
  have TC1 := Lib.hid (fun (X : World) (b : Below w.heap.size w X) => (Mem.copyBytes_any (W := X) (A := A) (n := s) (c := c) (f := f) (G := G) ⟨r.rd.below b fun k hk => (hG k hk).2.2, r.nil_⟩ hs).mono fun e w' h => (by
    obtain ⟨v, e, own, bl⟩ := h
    obtain ⟨B, cap, rfl, rd⟩ := own_rd own hf
    exact ⟨B, cap, e, rd, bl⟩ : ∃ B cap, e = .returned (.slice B s cap) ∧ Rd w' B s f (fun k => X.heap.size ≤ k ∧ k < w'.heap.size) ∧ Below X.heap.size X w'))
  have TR := Lib.hid (fun (X Y : World) (b : Below w.heap.size w X) (b2 : Below X.heap.size X Y) (B : Option Addr) (cap : Nat) (rd : Rd Y B s f (fun k => X.heap.size ≤ k ∧ k < Y.heap.size)) =>
    Mem.fill_yes (c := cap) ((d.one.below b).below b2) addr rd (fun k hk => ⟨fun h => by have := d.bound k (.inl h); have := b.size; omega, hk.2⟩) ha hh)
  have TS := Lib.hid (fun (X Y : World) (b : Below w.heap.size w X) (m : Mod F1 X Y) => Ref.fill_yes (c := c) ((d.two.below b).mod m fun k h2 h1 => d.apart k h1 h2) addr ((r.rd.below b fun k hk => (hG k hk).2.2).mod m (fun k hk => (hG k hk).1) fun k hk => Nat.lt_of_lt_of_le (hG k hk).2.2 b.size) (fun k hk => ⟨(hG k hk).2.1, by have := (hG k hk).2.2; have := b.size; have := m.size; omega⟩) ha hh)
  have D := Lib.hid d
  clear d r hG hs hf ha hh
  go_enter Tryz.func51, Tryz.ntmps51
  have ST := Lib.hid (Kn.nil (S := Step.Nil) (W := w))
  go_wp2_with (((with_reducible refine Step.gate_box (t := 40) rfl ?_); refine Step.fresh (cs := #[.pointer (some ⟨h1, 0, none⟩), .pointer (some ⟨h2, 0, none⟩)]) (T := 40) rfl ?hr ?_; (case hr => first | (go_simp; done) | (go_simp; rfl)); intro g1 w1 b hg hb; replace ST := Lib.hid (ST.out.made b hg hb); clear b hb; have HG := Lib.hid hg; clear hg))
  have c0 := ST.out.at0.cell 0
  simp only [List.getElem?_toArray, List.getElem?_cons_zero] at c0
  go_region_held3 (fun w' => w'.cell? ⟨g1, 0, none⟩ = some (.pointer (some ⟨h1, 0, none⟩))) (first | (go_keep; done) | exact G1.out.cell 0 | exact ST.out.at0.cell 0)
    ((first
    | (go_at_call 81; (with_reducible refine (TC1.out _ (ST.out.call (Below.drew (Below.refl _ _))).below).mono ?_); rintro e wc ⟨B, cap, rfl, rd, hb⟩; have S0 := Lib.hid (ST.out.call (Below.drew (Below.refl _ _))).below; have RD := Lib.hid rd; have CB := Lib.hid hb; replace ST := Lib.hid ((ST.out.call (Below.drew (Below.refl _ _))).call hb); clear rd hb)
    | (go_at_call 80; (with_reducible refine (TR.out _ _ S0.out CB.out _ _ RD.out).mono ?_); rintro e w3 ⟨rfl, r, m⟩; have R1 := Lib.hid r; have M1 := Lib.hid m; have G1 := Lib.hid (ST.out.at0.mod m fun h => by have := D.out.bound _ (.inl h); have := HG.out; omega); clear r m)))
  go_wp2_with (first
    | ((with_reducible refine Step.gate_load (t := 38) rfl ?_); refine Step.load G1.out rfl rfl rfl pl_pr3 rfl ?_)
    | (go_at_call 82; (with_reducible refine (TS.out _ _ ST.out.below M1.out).mono ?_); rintro e w4 ⟨rfl, r, m⟩; have R2 := Lib.hid r; have M2 := Lib.hid m; clear r m))
  go_end0
  have dd := (D.out.below ST.out.below).step R1.out M1.out R2.out M2.out
  have hs := ST.out.below.size
  refine ⟨rfl, _, _, dd, fun k hk h => h.elim id fun h => by omega, fun k hk h => h.elim id fun h => by have := M1.out.size; omega, ?_⟩
  refine ((Mod.of_below ST.out.below _).trans (M1.out.mono fun k _ h => .inl h)).trans (M2.out.mono fun k _ h => .inr h)
end Go.Proofs.YthkodjkkcgdmfaaGreat.Hart
end
section
namespace Go.Proofs.YthkodjkkcgdmfaaGreat.Hart
open Go Go.RowKit Go.Proofs.YthkodjkkcgdmfaaGreat.Step Go.Proofs.YthkodjkkcgdmfaaGreat.Enc Go.Proofs.YthkodjkkcgdmfaaGreat.Kn
open Go.Proofs.YthkodjkkcgdmfaaGreat.Mem (Ram Grow hasB wholeB num wr Rd fl Arg lst)
open Go.Proofs.YthkodjkkcgdmfaaGreat.Duo (Duo)
set_option linter.unusedVariables false
set_option linter.unusedSimpArgs false
abbrev Blks : Type := List (Nat × Array Value × TypeId)
/-- From W to w: a memory, the document's, and the listed blocks, all of them new and apart. -/
structure DK (W w : World) (h1 h2 : Nat) (base : Int) (n : Nat) (m1 m2 : Nat → Int) (F1 F2 : Nat → Prop) (L : Blks) : Prop where
  one : Ram w h1 base n m1 F1
  two : Ref.Mem w h2 base n m2 F2
  apart : ∀ k, F1 k → ¬ F2 k
  new : ∀ k, F1 k ∨ F2 k → W.heap.size ≤ k
  kn : Kn Step.Nil W w L
  ap : ∀ k, F1 k ∨ F2 k → ∀ p ∈ L, p.1 ≠ k
section
variable {W w w' : World} {h1 h2 n g : Nat} {base : Int} {m1 m2 mem mem' m1' : Nat → Int} {F1 F2 F1' F2' : Nat → Prop} {L L' : Blks} {c c' : Array Value} {T T' : TypeId}
theorem DK.bound (d : DK W w h1 h2 base n m1 m2 F1 F2 L) : ∀ k, F1 k ∨ F2 k → k < w.heap.size := fun k h => h.elim (d.one.bound k) (d.two.bound k)
theorem DK.of (d : Duo W w h1 h2 base n mem F1 F2) (k : Kn Step.Nil W w L) (a : ∀ k, F1 k ∨ F2 k → ∀ p ∈ L, p.1 ≠ k) : DK W w h1 h2 base n mem mem F1 F2 L := ⟨d.one, d.two, d.apart, d.new, k, a⟩
theorem DK.duo (d : DK W w h1 h2 base n mem mem F1 F2 L) : Duo W w h1 h2 base n mem F1 F2 := ⟨d.one, d.two, d.apart, d.new, d.kn.mod⟩
theorem DK.size (d : DK W w h1 h2 base n m1 m2 F1 F2 L) : W.heap.size ≤ w.heap.size := d.kn.mod.size
theorem DK.below (d : DK W w h1 h2 base n m1 m2 F1 F2 L) : Below W.heap.size W w := d.kn.below
theorem DK.call (d : DK W w h1 h2 base n m1 m2 F1 F2 L) (b : Below w.heap.size w w') : DK W w' h1 h2 base n m1 m2 F1 F2 L := ⟨d.one.below b, d.two.below b, d.apart, d.new, d.kn.call b, d.ap⟩
theorem DK.made (d : DK W w h1 h2 base n m1 m2 F1 F2 L) (b : Blk w' g c T) (hg : w.heap.size ≤ g) (hb : Below w.heap.size w w') : DK W w' h1 h2 base n m1 m2 F1 F2 ((g, c, T) :: L) :=
  ⟨d.one.below hb, d.two.below hb, d.apart, d.new, d.kn.made b hg hb, fun k hk p hp => by
    rcases List.mem_cons.1 hp with rfl | hp
    · have := d.bound k hk
      show g ≠ k
      omega
    · exact d.ap k hk p hp⟩
/-- A listed block is turned. -/
theorem DK.set (d : DK W w h1 h2 base n m1 m2 F1 F2 L) (k : Kn Step.Nil W w' L') (m : Mod (One g) w w') (hg : ∃ p ∈ L, p.1 = g) (hL : L'.map (·.1) = L.map (·.1)) : DK W w' h1 h2 base n m1 m2 F1 F2 L' := by
  obtain ⟨p, hp, rfl⟩ := hg
  refine ⟨d.one.mod m fun k hk e => d.ap k (.inl hk) p hp (e : k = p.1).symm, d.two.mod m fun k hk e => d.ap k (.inr hk) p hp (e : k = p.1).symm, d.apart, d.new, k, fun k hk q hq => ?_⟩
  have : q.1 ∈ L'.map (·.1) := List.mem_map.2 ⟨q, hq, rfl⟩
  rw [hL] at this
  obtain ⟨r, hr, e⟩ := List.mem_map.1 this
  rw [← e]
  exact d.ap k hk r hr
/-- Both memories are turned. -/
theorem DK.turn (d : DK W w h1 h2 base n m1 m2 F1 F2 L) (r1 : Ram w' h1 base n m1' F1') (r2 : Ref.Mem w' h2 base n mem' F2') (ha : ∀ k, F1' k → ¬ F2' k) (f1 : ∀ k, k < w.heap.size → F1' k → F1 k) (f2 : ∀ k, k < w.heap.size → F2' k → F2 k) (m : Mod (fun k => F1 k ∨ F2 k) w w') :
    DK W w' h1 h2 base n m1' mem' F1' F2' L := by
  have hf : ∀ k, F1' k ∨ F2' k → k < w.heap.size → F1 k ∨ F2 k := fun k hk hl => hk.imp (f1 k hl) (f2 k hl)
  refine ⟨r1, r2, ha, fun k hk => ?_, d.kn.turn m (fun p hp e => d.ap _ e p hp rfl) fun i hi e => absurd (d.new i e) (by omega), fun k hk p hp e => ?_⟩
  · have := d.size
    by_cases hl : k < w.heap.size
    · exact d.new k (hf k hk hl)
    · omega
  · have := (d.kn.blk p hp).lt
    exact d.ap k (hf k hk (by omega)) p hp e
theorem DK.duoTurn (d : DK W w h1 h2 base n m1 m2 F1 F2 L) (u : Duo W w' h1 h2 base n mem' F1' F2') (f1 : ∀ k, k < w.heap.size → F1' k → F1 k) (f2 : ∀ k, k < w.heap.size → F2' k → F2 k) (m : Mod (fun k => F1 k ∨ F2 k) w w') : DK W w' h1 h2 base n mem' mem' F1' F2' L :=
  d.turn u.one u.two u.apart f1 f2 m
theorem DK.blk (d : DK W w h1 h2 base n m1 m2 F1 F2 L) {p : Nat × Array Value × TypeId} (hp : p ∈ L) : Blk w p.1 p.2.1 p.2.2 := d.kn.blk p hp
theorem DK.drop {p : Nat × Array Value × TypeId} (d : DK W w h1 h2 base n m1 m2 F1 F2 (p :: L)) : DK W w h1 h2 base n m1 m2 F1 F2 L := ⟨d.one, d.two, d.apart, d.new, d.kn.drop, fun k hk q hq => d.ap k hk q (List.mem_cons_of_mem _ hq)⟩
/-- A step of a core of it. -/
theorem DK.core {tv : Value} {vmid : Int} {done st : Int} {km : Value} (d : DK W w h1 h2 base n m1 m2 F1 F2 ((g, ccg h1 tv 0 vmid 0 0 km, TC) :: L)) : Kor w g h1 tv vmid base n m1 F1 := ⟨.inl ⟨km, d.kn.at0⟩, d.one, fun hf => d.ap g (.inl hf) _ (List.mem_cons_self ..) rfl⟩
end
end Go.Proofs.YthkodjkkcgdmfaaGreat.Hart
end
section
namespace Go.Proofs.YthkodjkkcgdmfaaGreat.Hart
open Go Go.RowKit Go.Proofs.YthkodjkkcgdmfaaGreat.Step Go.Proofs.YthkodjkkcgdmfaaGreat.Enc Go.Proofs.YthkodjkkcgdmfaaGreat.Kn
open Go.Proofs.YthkodjkkcgdmfaaGreat.Mem (Ram Grow hasB wholeB num wr Rd fl Arg lst newB place_any)
open Go.Proofs.YthkodjkkcgdmfaaGreat.Duo (Duo RdC cm memory_any size_two)
set_option linter.unusedVariables false
set_option linter.unusedSimpArgs false
set_option maxRecDepth 100000
/-- A case, as an argument; nothing in its TLB. -/
def cs6 (b fr : Int) (A : Option Addr) (s c : Nat) (A2 : Option Addr) (len cap : Nat) (root vmid : Int) (h : Hrt) (now : Int) : Array Value := #[.int .u64 b, .int .i64 fr, .slice A s c, .slice A2 len cap, .int .u64 root, .int .i64 vmid, .slice none 0 0, .int .u64 (h.x 0), .int .u64 (h.x 1), .int .u64 (h.x 2), .int .u64 (h.x 3), .int .u64 (h.x 4), .int .u64 (h.x 5), .int .u64 (h.x 6), .int .u64 (h.x 7), .int .u64 (h.x 8), .int .u64 (h.x 9), .int .u64 (h.x 10), .int .u64 (h.x 11), .int .u64 (h.x 12), .int .u64 (h.x 13), .int .u64 (h.x 14), .int .u64 (h.x 15), .int .u64 (h.x 16), .int .u64 (h.x 17), .int .u64 (h.x 18), .int .u64 (h.x 19), .int .u64 (h.x 20), .int .u64 (h.x 21), .int .u64 (h.x 22), .int .u64 (h.x 23), .int .u64 (h.x 24), .int .u64 (h.x 25), .int .u64 (h.x 26), .int .u64 (h.x 27), .int .u64 (h.x 28), .int .u64 (h.x 29), .int .u64 (h.x 30), .int .u64 (h.x 31), .int .u64 h.pc, .bool h.user, .bool h.on, .bool h.spie, .bool h.spp, .bool h.sum, .bool h.mxr, .bool h.rsv, .int .u64 h.stvec, .int .u64 h.sscr, .int .u64 h.sepc, .int .u64 h.scause, .int .u64 h.stval, .int .u64 h.sie, .int .u64 h.sip, .int .u64 h.satp, .int .u64 h.resv, .int .u64 now]
abbrev CT : TypeId := 109
theorem pl_sb : Step.plainT Tryz.prog 66 = true := by kernel_rfl
theorem pl_st : Step.plainT Tryz.prog 67 = true := by kernel_rfl
theorem results5 {P : Program} {fn : Func} {a b c p d : Tmp} {ty : TypeId} (h : fn.results = #[.tmp a, .tmp b, .tmp c, .cell p ty, .tmp d]) (tmps : Array Value) (w : World) (g : Nat) (t : TypeId) (cs : Array Value) (de : TypeDesc)
    (hp : tmps.getD p undef = .pointer (some ⟨g, 0, none⟩)) (hg : Blk w g cs t) (hu : P.underlying ty = some de) (hd : (match de with | .struct _ | .array _ _ => true | _ => false) = true) (hi : (P.info? ty).map (·.size) = some cs.size) :
    (results fn tmps).run P w = .ok (.tuple #[tmps.getD a undef, tmps.getD b undef, tmps.getD c undef, .agg cs, tmps.getD d undef]) w := by
  have h2 := run_loadVar_row (P := P) w g t ty cs (0, 0) de hg.out hu hd hi
  have e : (results fn tmps).run P w = ((asAddr (tmps.getD p undef)).run P w).andThen fun ad w₁ => ((loadVar ty ad).run P w₁).andThen fun v w₂ => .ok (.tuple #[tmps.getD a undef, tmps.getD b undef, tmps.getD c undef, v, tmps.getD d undef]) w₂ := by
    simp only [results, h]
    simp [Sem.run_bind, Result.andThen]
  rw [e, hp]
  simp only [asAddr, Sem.run_pure, Result.andThen_ok, h2]
section
variable {b fr : Int} {A A2 : Option Addr} {s c len cap : Nat} {root vmid now : Int} {h : Hrt}
theorem cs6_0 : (cs6 b fr A s c A2 len cap root vmid h now)[0]? = some (.int .u64 b) := rfl
theorem cs6_1 : (cs6 b fr A s c A2 len cap root vmid h now)[1]? = some (.int .i64 fr) := rfl
theorem cs6_2 : (cs6 b fr A s c A2 len cap root vmid h now)[2]? = some (.slice A s c) := rfl
theorem cs6_3 : (cs6 b fr A s c A2 len cap root vmid h now)[3]? = some (.slice A2 len cap) := rfl
theorem cs6_4 : (cs6 b fr A s c A2 len cap root vmid h now)[4]? = some (.int .u64 root) := rfl
theorem cs6_5 : (cs6 b fr A s c A2 len cap root vmid h now)[5]? = some (.int .i64 vmid) := rfl
theorem cs6_6 : (cs6 b fr A s c A2 len cap root vmid h now)[6]? = some (.slice none 0 0) := rfl
end
theorem _root_.Go.Proofs.YthkodjkkcgdmfaaGreat.Duo.Duo.ahead {V W w : World} {h1 h2 n : Nat} {base : Int} {mem : Nat → Int} {F1 F2 : Nat → Prop} (d : Duo V w h1 h2 base n mem F1 F2) (b : Below W.heap.size W V) : Duo W w h1 h2 base n mem F1 F2 :=
  ⟨d.one, d.two, d.apart, fun k h => Nat.le_trans b.size (d.new k h), (Mod.of_below b Step.Nil).trans d.mod⟩
section
variable {W w2 wm : World} {g5 g1 h1 h2 n : Nat} {c5 c1 : Array Value} {T5 T1 : TypeId} {base : Int} {mem : Nat → Int} {F1 F2 : Nat → Prop}
theorem both_a (ST : Kn Step.Nil W w2 [(g5, c5, T5), (g1, c1, T1)]) (d : Duo (w2.alloc (.cells #[.pointer none, .pointer none] 40)).drew wm h1 h2 base n mem F1 F2) :
    Blk wm w2.heap.size #[.pointer none, .pointer none] 40 ∧ Kn Step.Nil W ((wm.setCell ⟨w2.heap.size, 0, none⟩ (.pointer (some ⟨h1, 0, none⟩))).setCell ⟨w2.heap.size, 1, none⟩ (.pointer (some ⟨h2, 0, none⟩))) [(w2.heap.size, #[.pointer (some ⟨h1, 0, none⟩), .pointer (some ⟨h2, 0, none⟩)], 40), (g5, c5, T5), (g1, c1, T1)] ∧ Duo W ((wm.setCell ⟨w2.heap.size, 0, none⟩ (.pointer (some ⟨h1, 0, none⟩))).setCell ⟨w2.heap.size, 1, none⟩ (.pointer (some ⟨h2, 0, none⟩))) h1 h2 base n mem F1 F2 ∧ ∀ k, F1 k ∨ F2 k → ∀ p ∈ ([(w2.heap.size, #[.pointer (some ⟨h1, 0, none⟩), .pointer (some ⟨h2, 0, none⟩)], 40), (g5, c5, T5), (g1, c1, T1)] : Blks), p.1 ≠ k := by
  have KA := ((ST.made (alloc_out w2 #[.pointer none, .pointer none] 40) (Nat.le_refl _) (alloc_below _ _)).call (Below.drew (Below.refl _ _))).call d.out
  have KB := KA.set0 (setCell_out _ _ 0 (.pointer (some ⟨h1, 0, none⟩)) _ _ KA.at0) (setCell_mod _ _ _ _)
  have KC := KB.set0 (setCell_out _ _ 1 (.pointer (some ⟨h2, 0, none⟩)) _ _ KB.at0) (setCell_mod _ _ _ _)
  have DW := d.ahead ((ST.call (alloc_below w2 (.cells #[.pointer none, .pointer none] 40))).call (Below.drew (Below.refl _ _))).below
  have hN : W.heap.size ≤ w2.heap.size := ST.below.size
  have hX : w2.heap.size < (w2.alloc (.cells #[.pointer none, .pointer none] 40)).heap.size := (alloc_out w2 _ _).lt
  have l5 := ST.at0.lt
  have l1 := ST.at1.lt
  have hnew : ∀ k, F1 k ∨ F2 k → (w2.alloc (.cells #[.pointer none, .pointer none] 40)).heap.size ≤ k := fun k hk => d.new k hk
  have nN : ∀ k, F1 k ∨ F2 k → ¬ One w2.heap.size k := fun k hk e => by
    have e' : k = w2.heap.size := e
    have := hnew k hk
    omega
  refine ⟨KA.at0, KC, (DW.other (setCell_mod wm w2.heap.size 0 (.pointer (some ⟨h1, 0, none⟩))) nN fun k e => ?_).other (setCell_mod _ w2.heap.size 1 (.pointer (some ⟨h2, 0, none⟩))) nN fun k e => ?_, fun k hk p hp => ?_⟩
  · have e' : k = w2.heap.size := e
    omega
  · have e' : k = w2.heap.size := e
    omega
  · have := hnew k hk
    simp only [List.mem_cons, List.not_mem_nil, or_false] at hp
    rcases hp with rfl | rfl | rfl
    · show w2.heap.size ≠ k; omega
    · show g5 ≠ k; omega
    · show g1 ≠ k; omega
theorem both_b (ST : Kn Step.Nil W w2 [(g5, c5, T5), (g1, c1, T1)]) (d : Duo w2.drew wm h1 h2 base n mem F1 F2) :
    Kn Step.Nil W (wm.alloc (.cells #[.pointer (some ⟨h1, 0, none⟩), .pointer (some ⟨h2, 0, none⟩)] 40)) [(wm.heap.size, #[.pointer (some ⟨h1, 0, none⟩), .pointer (some ⟨h2, 0, none⟩)], 40), (g5, c5, T5), (g1, c1, T1)] ∧ Duo W (wm.alloc (.cells #[.pointer (some ⟨h1, 0, none⟩), .pointer (some ⟨h2, 0, none⟩)] 40)) h1 h2 base n mem F1 F2 ∧ ∀ k, F1 k ∨ F2 k → ∀ p ∈ ([(wm.heap.size, #[.pointer (some ⟨h1, 0, none⟩), .pointer (some ⟨h2, 0, none⟩)], 40), (g5, c5, T5), (g1, c1, T1)] : Blks), p.1 ≠ k := by
  have KC := (ST.call (Below.drew (Below.refl _ _))).call d.out
  have DW := d.ahead (ST.call (Below.drew (Below.refl _ _))).below
  have l5 := ST.at0.lt
  have l1 := ST.at1.lt
  refine ⟨KC.made (alloc_out wm _ _) (Nat.le_refl _) (alloc_below _ _), DW.below (alloc_below _ _), fun k hk p hp => ?_⟩
  have : w2.heap.size ≤ k := d.new k hk
  have := DW.bound k hk
  simp only [List.mem_cons, List.not_mem_nil, or_false] at hp
  rcases hp with rfl | rfl | rfl
  · show wm.heap.size ≠ k; omega
  · show g5 ≠ k; omega
  · show g1 ≠ k; omega
end
section
variable {W wE : World} {gN g5 g1 gc gtr gt h1 h2 n : Nat} {cN c1 cc ctr ct : Array Value} {T1 Tc Ttr Tt : TypeId} {base : Int} {m1 m2 : Nat → Int} {F1 F2 : Nat → Prop}
theorem both_c (C : Array Value) (ST : DK W wE h1 h2 base n m1 m2 F1 F2 [(gc, cc, Tc), (gtr, ctr, Ttr), (gt, ct, Tt), (gN, cN, 40), (g5, #[.pointer none, .pointer none], 40), (g1, c1, T1)]) :
    DK W ((wE.alloc (.cells C CT)).drew) h1 h2 base n m1 m2 F1 F2 [(wE.heap.size, C, CT), (gc, cc, Tc), (gtr, ctr, Ttr), (gt, ct, Tt), (gN, cN, 40), (g5, #[.pointer none, .pointer none], 40), (g1, c1, T1)] ∧ DK W ((((wE.setCell ⟨g5, 0, none⟩ (.pointer (some ⟨h1, 0, none⟩))).setCell ⟨g5, 1, none⟩ (.pointer (some ⟨h2, 0, none⟩))).alloc (.cells C CT)).drew) h1 h2 base n m1 m2 F1 F2 [(wE.heap.size, C, CT), (gc, cc, Tc), (gtr, ctr, Ttr), (gt, ct, Tt), (gN, cN, 40), (g5, #[.pointer (some ⟨h1, 0, none⟩), .pointer (some ⟨h2, 0, none⟩)], 40), (g1, c1, T1)] := by
  have D := (ST.made (alloc_out wE C CT) (Nat.le_refl _) (alloc_below _ _)).call (Below.drew (Below.refl _ _))
  have E1 := ST.set (ST.kn.set4 (setCell_out _ _ 0 (.pointer (some ⟨h1, 0, none⟩)) _ _ ST.kn.at4) (setCell_mod _ _ _ _)) (setCell_mod _ _ _ _) ⟨_, List.mem_of_getElem? (i := 4) rfl, rfl⟩ rfl
  have E2 := E1.set (E1.kn.set4 (setCell_out _ _ 1 (.pointer (some ⟨h2, 0, none⟩)) _ _ E1.kn.at4) (setCell_mod _ _ _ _)) (setCell_mod _ _ _ _) ⟨_, List.mem_of_getElem? (i := 4) rfl, rfl⟩ rfl
  have e : ((wE.setCell ⟨g5, 0, none⟩ (.pointer (some ⟨h1, 0, none⟩))).setCell ⟨g5, 1, none⟩ (.pointer (some ⟨h2, 0, none⟩))).heap.size = wE.heap.size := by simp [World.setCell]
  have D2 := (E2.made (alloc_out ((wE.setCell ⟨g5, 0, none⟩ (.pointer (some ⟨h1, 0, none⟩))).setCell ⟨g5, 1, none⟩ (.pointer (some ⟨h2, 0, none⟩))) C CT) (Nat.le_refl _) (alloc_below _ _)).call (Below.drew (Below.refl _ _))
  rw [e] at D2
  exact ⟨D, D2⟩
end
set_option maxHeartbeats 8000000 in
theorem both_any (W : World) (b fr : Int) (hfr : -9223372036854775808 ≤ fr ∧ fr < 9223372036854775808) (hb0 : 0 ≤ b ∧ b < 18446744073709551616) (base : Int) (hbase : b % 1099511627776 / 4096 * 4096 = base) (n : Nat) (hn : 1 + fr % 8 = n) (A : Option Addr) (s c : Nat) (f : Nat → Int) (hA : Arg W A s c f (· < W.heap.size)) (hs : s ≤ 4096) (hf : ∀ k, k < s → 0 ≤ f k ∧ f k < 256)
    (A2 : Option Addr) (len cap : Nat) (f2 : Nat → Int × Int) (hA2 : RdC W A2 len f2 (· < W.heap.size)) (hl : len ≤ 9223372036854775807) (root vmid : Int) (h : Hrt) (now : Int) :
    Calls Tryz.prog 32 #[.agg (cs6 b fr A s c A2 len cap root vmid h now)] W fun e w' => ∃ gc gcr gt gtr h1 h2 F1 F2 L, e = .returned (.tuple #[.pointer (some ⟨gc, 0, none⟩), .pointer (some ⟨gcr, 0, none⟩), .pointer (some ⟨gt, 0, none⟩), .agg #[.pointer (some ⟨h1, 0, none⟩), .pointer (some ⟨h2, 0, none⟩)], .bool true]) ∧ DK W w' h1 h2 base n (fl (cm n f2 len) 0 s f) (fl (cm n f2 len) 0 s f) F1 F2 ((gcr, #[.pointer (some ⟨h2, 0, none⟩), .pointer (some ⟨gtr, 0, none⟩), .int .u64 root, .int .i64 vmid, .bool false], CT) :: (gc, ccg h1 (.pointer (some ⟨gt, 0, none⟩)) root vmid 0 0 (.map none), TC) :: (gtr, #[.int .i64 8, .slice none 0 0], 145) :: (gt, #[.int .i64 8, .slice none 0 0], 115) :: L) := by
  have e0 : 0 ≤ base ∧ base < 1099511627776 := by omega
  have en : 1 ≤ n ∧ n ≤ 8 := by omega
  have hnew : newB base n = true := decide_eq_true (by refine ⟨?_, ?_, ?_, ?_⟩ <;> omega)
  have w1 : IntKind.u64.wrap (IntKind.u64.wrap ((b.tmod 1099511627776).tdiv 4096) * 4096) = base := by
    rw [Int.tmod_eq_emod_of_nonneg hb0.1, Int.tdiv_eq_ediv_of_nonneg (by omega), IntWalk.u64_in (b % 1099511627776 / 4096) (by omega), hbase]; exact IntWalk.u64_in _ (by omega)
  have w2 : IntKind.i64.wrap (1 + fr % 8) = n := by rw [hn]; exact IntWalk.i64_in _ (by omega)
  have HHB := Lib.hid (show hasB base n base (s : Nat) = true by simp only [hasB, decide_eq_true_eq]; omega)
  have TP := Lib.hid (fun w => place_any fr 8 (by decide) hfr (by decide) w)
  have TM := Lib.hid (fun (X : World) (bl : Below W.heap.size W X) => memory_any X base n n rfl (by omega) hnew A2 len cap f2 ((hA2.mod (Mod.of_below bl Step.Nil) (fun _ _ h => h) fun _ h => h).wide fun k hk => Nat.lt_of_lt_of_le hk bl.size) hl)
  have RA := Lib.hid hA
  have HS := Lib.hid hs
  have HF := Lib.hid hf
  have HN := Lib.hid hnew
  have HE0 := Lib.hid e0
  have HEN := Lib.hid en
  clear hA hA2 hs hl hf hnew e0 en hb0 hfr hbase hn
  go_enter Tryz.func32, Tryz.ntmps32
  have ST := Lib.hid (Kn.nil (S := Step.Nil) (W := W))
  go_wp2_with (first
    | ((with_reducible refine Step.gate_box (t := 69) rfl ?_); refine Step.fresh (cs := cs6 b fr A s c A2 len cap root vmid h now) (T := 69) rfl ?hr ?_; (case hr => first | (go_simp; done) | (go_simp; rfl)); intro g1 w1 b hg hb; replace ST := Lib.hid (ST.out.made b hg hb); clear b hb; clear hg)
    | ((with_reducible refine Step.gate_alloc (t := 40) rfl ?_); refine Step.freshAlloc rfl rfl (Duo.alloc_agg Duo.zero_two) ?_; intro g5 w2 b hg hb; replace ST := Lib.hid (ST.out.made b hg hb); clear b hb; clear hg)
    | ((with_reducible refine Step.gate_load (t := 22) rfl ?_); refine Step.load ST.out.at1 rfl rfl rfl pl_u64 cs6_0 ?_))
  have c1 := (ST.out.at1.cell 1).trans cs6_1
  have c3 := (ST.out.at1.cell 3).trans cs6_3
  have hu := Tryz.underlying40
  have hz := size_two
  go_region_held3 (fun w' => w'.cell? ⟨g1, 1, none⟩ = some (.int .i64 fr) ∧ w'.cell? ⟨g1, 3, none⟩ = some (.slice A2 len cap))
    (first | (go_keep; done) | ((refine ⟨?_, ?_⟩ <;> go_keep); done) | exact ⟨(K8.out.at2.cell 1).trans cs6_1, (K8.out.at2.cell 3).trans cs6_3⟩ | exact ⟨((((ST.out.call (Below.drew (Below.refl _ _))).call d.out).call (alloc_below _ _)).at1.cell 1).trans cs6_1, ((((ST.out.call (Below.drew (Below.refl _ _))).call d.out).call (alloc_below _ _)).at1.cell 3).trans cs6_3⟩ | exact ⟨(((ST.out.call (Below.drew (Below.refl _ _))).call d.out).at1.cell 1).trans cs6_1, (((ST.out.call (Below.drew (Below.refl _ _))).call d.out).at1.cell 3).trans cs6_3⟩ | exact ⟨((((ST.out.call (alloc_below _ _)).call (Below.drew (Below.refl _ _))).call d.out).at1.cell 1).trans cs6_1, ((((ST.out.call (alloc_below _ _)).call (Below.drew (Below.refl _ _))).call d.out).at1.cell 3).trans cs6_3⟩)
    ((first
      | (go_at_call 25; (with_reducible refine (TP.out _).mono ?_); rintro e w' ⟨rfl, rfl⟩)
      | (go_at_call 35; (with_reducible refine (TM.out _ (by first | exact (ST.out.call (Below.drew (Below.refl _ _))).below | exact ((ST.out.call (alloc_below _ _)).call (Below.drew (Below.refl _ _))).below)).mono ?_); rintro e wm ⟨h1, h2, F1, F2, rfl, d⟩; (first | (have VA := both_a ST.out d; have n0 := VA.1.cell 0; have n1 := VA.1.cell 1; have f0 := VA.1.frozen 0; have f1 := VA.1.frozen 1; simp only [List.getElem?_toArray, List.getElem?_cons_zero, List.getElem?_cons_succ] at n0 n1; have K8 := Lib.hid VA.2.1; have D8 := Lib.hid VA.2.2.1; have NF8 := Lib.hid VA.2.2.2; clear VA; obtain ⟨gN, hgN⟩ : ∃ x, x = w2.heap.size := ⟨_, rfl⟩) | (have VB := both_b ST.out d; have K8 := Lib.hid VB.1; have D8 := Lib.hid VB.2.1; have NF8 := Lib.hid VB.2.2; clear VB; obtain ⟨gN, hgN⟩ : ∃ x, x = wm.heap.size := ⟨_, rfl⟩)))))
  all_goals
    rename_i hHeld
    clear hHeld
    have ST' := Lib.hid (DK.of D8.out K8.out NF8.out)
    replace ST := ST'
    clear ST' D8 K8 NF8 d
    rw [← hgN] at ST ⊢
    clear hgN
    have hsd : decide ((4096 : Int) < (s : Int)) = false := by have := HS.out; exact decide_eq_false (by omega)
    go_wp2_with (first
      | (go_at_call 36; (with_reducible refine (tlb_new8 _).mono ?_); rintro e w' ⟨gt, rfl, hg, b, hb⟩; replace ST := Lib.hid (ST.out.made b hg hb); clear hg b hb)
      | (go_at_call 50; (with_reducible refine (rtlb_new8 _).mono ?_); rintro e w' ⟨gtr, rfl, hg, b, hb⟩; replace ST := Lib.hid (ST.out.made b hg hb); clear hg b hb)
      | ((with_reducible refine Step.gate_load (t := 66) rfl ?_); refine Step.load ST.out.kn.at4 rfl rfl rfl pl_sb cs6_2 ?_)
      | ((with_reducible refine Step.gate_load (t := 40) rfl ?_); refine Step.loadAll ST.out.kn.at2 rfl rfl rfl Tryz.underlying40 rfl size_two ?_)
      | (go_at_call 51; (with_reducible refine (fboth ST.out.duo (⟨RA.out.rd.below ST.out.below (fun k h => h), RA.out.nil_⟩ : Arg _ A s c f (fun x => x < W.heap.size)) (fun k hk => by have hk' : k < W.heap.size := hk; have hz := ST.out.size; exact ⟨fun h => by have := ST.out.new k (.inl h); omega, fun h => by have := ST.out.new k (.inr h); omega, by omega⟩) (by have := HS.out; omega) HF.out base (by have := HE0.out; omega) HHB.out).mono ?_); rintro e w9 ⟨rfl, F1', F2', hd, f1, f2, m⟩; rw [show (base - base).toNat = 0 by omega] at hd; replace ST := Lib.hid (ST.out.duoTurn hd f1 f2 m); clear hd f1 f2 m))
    go_loopw [15] (fun i w => i = .int .i64 0 ∧ w = w9) (fun _ _ => 0)
    case atStart => exact ⟨rfl, rfl⟩
    case round =>
      obtain ⟨rfl, rfl⟩ := hrel
      go_wp2_with (first
        | ((with_reducible refine Step.gate_load (t := 67) rfl ?_); refine Step.load ST.out.kn.at4 rfl rfl rfl pl_st cs6_6 ?_)
        | ((with_reducible refine Step.gate_load (t := 37) rfl ?_); refine Step.load ST.out.kn.at2 rfl rfl rfl pl_pm rfl ?_)
        | (go_at_call 37; (with_reducible refine (core_new _ _ _).mono ?_); rintro e w' ⟨gc, rfl, hg, b, hb⟩; replace ST := Lib.hid (ST.out.made b hg hb); clear hg b hb)
        | ((with_reducible refine Step.gate_load (t := 22) rfl ?_); refine Step.load ST.out.kn.at5 rfl rfl rfl pl_u64 cs6_4 ?_)
        | ((with_reducible refine Step.gate_load (t := 3) rfl ?_); refine Step.load ST.out.kn.at5 rfl rfl rfl pl_int cs6_5 ?_)
        | (go_at_call 54; (with_reducible refine (enter_any ST.out.kn.at0 _ _).mono ?_); rintro e wE ⟨rfl, nb, m⟩; replace ST := Lib.hid (ST.out.set (ST.out.kn.set0 nb m) m ⟨_, List.mem_cons_self .., rfl⟩ rfl); clear nb m))
      have VC := both_c #[.pointer (some ⟨h2, 0, none⟩), .pointer (some ⟨gtr, 0, none⟩), .int .u64 root, .int .i64 vmid, .bool false] ST.out
      have n0 := VC.1.kn.at5.cell 0
      have n1 := VC.1.kn.at5.cell 1
      have f0 := VC.1.kn.at5.frozen 0
      have f1 := VC.1.kn.at5.frozen 1
      have a0 := VC.1.kn.at4.cell 0
      have a1 := VC.1.kn.at4.cell 1
      have a4 := (VC.1.kn.at6.cell 4).trans cs6_4
      have a5 := (VC.1.kn.at6.cell 5).trans cs6_5
      have b0 := VC.2.kn.at4.cell 0
      have b1 := VC.2.kn.at4.cell 1
      have b4 := (VC.2.kn.at6.cell 4).trans cs6_4
      have b5 := (VC.2.kn.at6.cell 5).trans cs6_5
      have i0 := (ST.out.call (Below.drew (Below.refl _ _))).kn.at3.cell 0
      have i1 := (ST.out.call (Below.drew (Below.refl _ _))).kn.at3.cell 1
      have i4 := ((ST.out.call (Below.drew (Below.refl _ _))).kn.at5.cell 4).trans cs6_4
      have i5 := ((ST.out.call (Below.drew (Below.refl _ _))).kn.at5.cell 5).trans cs6_5
      simp only [List.getElem?_toArray, List.getElem?_cons_zero, List.getElem?_cons_succ] at n0 n1 a0 a1 b0 b1 i0 i1
      have VM := (ST.out.made (alloc_out wE #[.pointer (some ⟨h2, 0, none⟩), .pointer (some ⟨gtr, 0, none⟩), .int .u64 root, .int .i64 vmid, .bool false] CT) (Nat.le_refl _) (alloc_below _ _)).kn
      have e0 := ST.out.kn.at4.cell 0
      have e1 := ST.out.kn.at4.cell 1
      have q0 := ST.out.kn.at4.frozen 0
      have q1 := ST.out.kn.at4.frozen 1
      have p0 := VM.at5.cell 0
      have p1 := VM.at5.cell 1
      have r0 := VM.at5.frozen 0
      have r1 := VM.at5.frozen 1
      have l5 := ST.out.kn.at4.lt
      have ne5 : ¬ g5 = wE.heap.size := by omega
      simp only [List.getElem?_toArray, List.getElem?_cons_zero, List.getElem?_cons_succ] at e0 e1 p0 p1
      clear VM
      replace VC := Lib.hid VC.2
      go_region_held3 (fun w' => w'.cell? ⟨gN, 0, none⟩ = some (.pointer (some ⟨h1, 0, none⟩)) ∧ w'.cell? ⟨gN, 1, none⟩ = some (.pointer (some ⟨h2, 0, none⟩)) ∧ w'.cell? ⟨g1, 4, none⟩ = some (.int .u64 root) ∧ w'.cell? ⟨g1, 5, none⟩ = some (.int .i64 vmid))
        (first | exact ⟨i0, i1, i4, i5⟩ | exact ⟨a0, a1, a4, a5⟩ | exact ⟨b0, b1, b4, b5⟩ | (go_keep; done)) (fail)
      go_wp2
      refine bodyPost_ret (results5 rfl _ _ g5 _ _ _ rfl VC.out.kn.at5 Tryz.underlying40 rfl size_two) rfl ?_
      exact ⟨gc, wE.heap.size, gt, gtr, h1, h2, _, _, _, rfl, VC.out⟩
end Go.Proofs.YthkodjkkcgdmfaaGreat.Hart
end
section
namespace Go.Proofs.YthkodjkkcgdmfaaGreat.Hart
open Go Go.RowKit Go.Proofs.YthkodjkkcgdmfaaGreat.Step Go.Proofs.YthkodjkkcgdmfaaGreat.Enc Go.Proofs.YthkodjkkcgdmfaaGreat.Kn
open Go.Proofs.YthkodjkkcgdmfaaGreat.Mem (Ram Grow hasB wholeB num wr)
set_option linter.unusedVariables false
set_option linter.unusedSimpArgs false
set_option maxRecDepth 100000
set_option maxHeartbeats 8000000 in
theorem run_aluImm {W : World} {gs gm n r : Nat} {s s2 : Stp} {tv : Value} {vmid base : Int} {mem mem2 : Nat → Int} {F G : Nat → Prop} {T : World → Prop} (h : Sy W gs s gm tv 0 vmid (.map (some r)) base n mem F G (KT r T)) (hs : s.was.satp / 1152921504606846976 = 0) (hs0 : U64 s.was.satp) (hsie : s.was.sie = 0) (hpc : 0 ≤ s.was.pc ∧ s.was.pc + 2 < 18446744073709551616) (h1 : hasB base n s.was.pc 2 = true) (h2 : hasB base n (s.was.pc + 2) 2 = true) (lo hi : Int) (elo : num mem (s.was.pc - base).toNat 2 = lo) (ehi : num mem (s.was.pc + 2 - base).toNat 2 = hi) (hlo : 0 ≤ lo ∧ lo < 65536) (hhi : 0 ≤ hi ∧ hi < 65536) (h4 : lo % 4 = 3) 
    (fn rd rs1 rs2 imm sz : Int) (sg : Bool) (hd : dec (hi * 65536 + lo) = some ⟨9, fn, rd, rs1, rs2, imm, sz, sg⟩) (HK : ∀ (W' : World) (F' : Nat → Prop), Sy W' gs (decP s (hi * 65536 + lo) ⟨9, fn, rd, rs1, rs2, imm, sz, sg⟩) gm tv 0 vmid (.map (some r)) base n mem F' G (KT r T) → Calls Tryz.prog 95 #[.pointer (some ⟨gs, 0, none⟩)] W' fun e w' => e = .returned (.tuple #[]) ∧ Out W' w' gs s2 gm tv 0 vmid (.map (some r)) base n mem2 F' G (KT r T)) :
    Calls Tryz.prog 39 #[.pointer (some ⟨gs, 0, none⟩)] W fun e w' => e = .returned (.tuple #[]) ∧ Out W w' gs (zeroX s2) gm tv 0 vmid (.map (some r)) base n mem2 F G (KT r T) := by
  have TP := Lib.hid (fun (W' : World) (hb : Blk W' gs (sc s) TS) => pending_no hb hsie)
  have TF := Lib.hid (fun (W' : World) (ho : Out W W' gs s gm tv 0 vmid (.map (some r)) base n mem F G (KT r T)) => by
    obtain ⟨F1, y, m, c⟩ := ho
    exact (fetch_4 y hs hs0 hpc h1 h2 lo hi elo ehi hlo hhi h4).mono fun e w' q => (⟨q.1, Out.set ⟨F1, y, m, c⟩ q.2.1 q.2.2 rfl⟩ : _ ∧ Out W w' gs { s with bits := hi * 65536 + lo, long := 4 } gm tv 0 vmid (.map (some r)) base n mem F G (KT r T)))
  have TD := Lib.hid (Decode_any (hi * 65536 + lo) ⟨by omega, by omega⟩)
  rw [hd] at TD
  simp only [told, Ins.cells] at TD
  have TK := Lib.hid (fun (W' : World) (ho : Out W W' gs (decP s (hi * 65536 + lo) ⟨9, fn, rd, rs1, rs2, imm, sz, sg⟩) gm tv 0 vmid (.map (some r)) base n mem F G (KT r T)) => by
    obtain ⟨F1, y, m, c⟩ := ho
    exact (HK W' F1 y).mono fun e w' q => (⟨q.1, Out.then m c q.2⟩ : _ ∧ Out W w' gs s2 gm tv 0 vmid (.map (some r)) base n mem2 F G (KT r T)))
  have e1 : IntKind.u64.wrap (s.was.pc + 4) = addW s.was.pc 4 := rfl
  have HO := Lib.hid h.out
  clear h hs hs0 hsie hpc h1 h2 elo ehi hlo hhi h4 hd HK
  go_enter Tryz.func39, Tryz.ntmps39
  go_wp2_with (first
    | (go_at_call 60; (with_reducible refine (TP.out _ HO.out.step).mono ?_); rintro e w' ⟨rfl, hb⟩; replace HO := Lib.hid (HO.out.below hb); clear hb)
    | (go_at_call 62; (with_reducible refine (TF.out _ HO.out).mono ?_); rintro e w' ⟨rfl, ho⟩; replace HO := Lib.hid ho; clear ho)
    | (go_at_call 63; (with_reducible refine (TD.out _).mono ?_); rintro e w' ⟨rfl, hb⟩; replace HO := Lib.hid (HO.out.below hb); clear hb)
    | ((with_reducible refine Step.gate_store (t := 44) rfl ?_); refine Step.storeMid HO.out.step rfl rfl rfl rfl rfl size_inst rfl rfl ?_; intro w3 nb m; rw [lays_i] at nb; replace HO := Lib.hid (HO.out.set (s' := _) nb m rfl); clear nb m)
    | ((with_reducible refine Sq.region (id := 9) (I := fun X => Out W X gs _ gm tv 0 vmid _ base n _ F _ _) ?hm15 11 HO.out.drew ?hp15 ?hs15); (case hm15 => rfl); (case hp15 => kernel_rfl); intro ops K hops hK; clear hops; dsimp only [List.take]; (repeat (first | (refine Sq.seq_move rfl rfl ?_; simp only [Act.put, Act.eval, Array.getD_eq_getD_getElem?, List.getElem?_toArray, List.getElem?_cons_zero, List.getElem?_cons_succ, Option.getD_some, List.setIfInBounds_toArray, List.set_cons_zero, List.set_cons_succ, e1]) | (refine Sq.seq_check rfl rfl rfl ?_; simp only [Act.put, Act.eval, Array.getD_eq_getD_getElem?, List.getElem?_toArray, List.getElem?_cons_zero, List.getElem?_cons_succ, Option.getD_some, List.setIfInBounds_toArray, List.set_cons_zero, List.set_cons_succ, e1]) | (refine Sq.seq_load (t := 22) (fun X hX => hX.step) (Sq.wanted_none rfl) rfl rfl pl_u64 (sv_ok _ (by decide)) ?_; simp only [Act.put, Act.eval, Array.getD_eq_getD_getElem?, List.getElem?_toArray, List.getElem?_cons_zero, List.getElem?_cons_succ, Option.getD_some, List.setIfInBounds_toArray, List.set_cons_zero, List.set_cons_succ, sv_dry, sv_now, sv_k, sv_fn, sv_rd, sv_rs1, sv_rs2, sv_imm, sv_sz, sv_sg, sv_long, sv_bits, sv_ek, sv_ea, sv_eva, sv_egpa, sv_ewalk, sv_ewrote, sv_was_pc, sv_was_user, sv_was_on, sv_was_spie, sv_was_spp, sv_was_sum, sv_was_mxr, sv_was_rsv, sv_was_stvec, sv_was_sscr, sv_was_sepc, sv_was_scause, sv_was_stval, sv_was_sie, sv_was_sip, sv_was_satp, sv_was_resv, sv_h_pc, sv_h_user, sv_h_on, sv_h_spie, sv_h_spp, sv_h_sum, sv_h_mxr, sv_h_rsv, sv_h_stvec, sv_h_sscr, sv_h_sepc, sv_h_scause, sv_h_stval, sv_h_sie, sv_h_sip, sv_h_satp, sv_h_resv, sv_c, e1]) | (refine Sq.seq_load (t := 3) (fun X hX => hX.step) (Sq.wanted_none rfl) rfl rfl pl_int (sv_ok _ (by decide)) ?_; simp only [Act.put, Act.eval, Array.getD_eq_getD_getElem?, List.getElem?_toArray, List.getElem?_cons_zero, List.getElem?_cons_succ, Option.getD_some, List.setIfInBounds_toArray, List.set_cons_zero, List.set_cons_succ, sv_dry, sv_now, sv_k, sv_fn, sv_rd, sv_rs1, sv_rs2, sv_imm, sv_sz, sv_sg, sv_long, sv_bits, sv_ek, sv_ea, sv_eva, sv_egpa, sv_ewalk, sv_ewrote, sv_was_pc, sv_was_user, sv_was_on, sv_was_spie, sv_was_spp, sv_was_sum, sv_was_mxr, sv_was_rsv, sv_was_stvec, sv_was_sscr, sv_was_sepc, sv_was_scause, sv_was_stval, sv_was_sie, sv_was_sip, sv_was_satp, sv_was_resv, sv_h_pc, sv_h_user, sv_h_on, sv_h_spie, sv_h_spp, sv_h_sum, sv_h_mxr, sv_h_rsv, sv_h_stvec, sv_h_sscr, sv_h_sepc, sv_h_scause, sv_h_stval, sv_h_sie, sv_h_sip, sv_h_satp, sv_h_resv, sv_c, e1]) | (refine Sq.seq_load (t := 4) (fun X hX => hX.step) (Sq.wanted_none rfl) rfl rfl pl_bool (sv_ok _ (by decide)) ?_; simp only [Act.put, Act.eval, Array.getD_eq_getD_getElem?, List.getElem?_toArray, List.getElem?_cons_zero, List.getElem?_cons_succ, Option.getD_some, List.setIfInBounds_toArray, List.set_cons_zero, List.set_cons_succ, sv_dry, sv_now, sv_k, sv_fn, sv_rd, sv_rs1, sv_rs2, sv_imm, sv_sz, sv_sg, sv_long, sv_bits, sv_ek, sv_ea, sv_eva, sv_egpa, sv_ewalk, sv_ewrote, sv_was_pc, sv_was_user, sv_was_on, sv_was_spie, sv_was_spp, sv_was_sum, sv_was_mxr, sv_was_rsv, sv_was_stvec, sv_was_sscr, sv_was_sepc, sv_was_scause, sv_was_stval, sv_was_sie, sv_was_sip, sv_was_satp, sv_was_resv, sv_h_pc, sv_h_user, sv_h_on, sv_h_spie, sv_h_spp, sv_h_sum, sv_h_mxr, sv_h_rsv, sv_h_stvec, sv_h_sscr, sv_h_sepc, sv_h_scause, sv_h_stval, sv_h_sie, sv_h_sip, sv_h_satp, sv_h_resv, sv_c, e1]) | (refine Sq.seq_load (t := 36) (fun X hX => hX.step) (Sq.wanted_none rfl) rfl rfl pl_pc (sv_ok _ (by decide)) ?_; simp only [Act.put, Act.eval, Array.getD_eq_getD_getElem?, List.getElem?_toArray, List.getElem?_cons_zero, List.getElem?_cons_succ, Option.getD_some, List.setIfInBounds_toArray, List.set_cons_zero, List.set_cons_succ, sv_c]) | (refine Sq.seq_load (t := 127) (fun X hX => hX.core) (Sq.wanted_none rfl) rfl rfl pl_km cc_kinds ?_; simp only [Act.put, Act.eval, Array.getD_eq_getD_getElem?, List.getElem?_toArray, List.getElem?_cons_zero, List.getElem?_cons_succ, Option.getD_some, List.setIfInBounds_toArray, List.set_cons_zero, List.set_cons_succ]) | (refine' Sq.seq_pure rfl (fun X => _) _; rotate_left; (first | (go_simp; done) | (go_simp; rfl)); simp only [Act.put, Act.eval, Array.getD_eq_getD_getElem?, List.getElem?_toArray, List.getElem?_cons_zero, List.getElem?_cons_succ, Option.getD_some, List.setIfInBounds_toArray, List.set_cons_zero, List.set_cons_succ, e1]))); refine Sq.seq_nil ?_; refine hK.out _ fun w1 hk => ?_; clear hK; replace HO := Lib.hid hk; clear hk; dsimp only [List.drop])
    | ((with_reducible refine Sq.region (id := 10) (I := fun X => Out W X gs _ gm tv 0 vmid _ base n _ F _ _) ?hm16 14 HO.out.drew ?hp16 ?hs16); (case hm16 => rfl); (case hp16 => kernel_rfl); intro ops K hops hK; clear hops; dsimp only [List.take]; (repeat (first | (refine Sq.seq_move rfl rfl ?_; simp only [Act.put, Act.eval, Array.getD_eq_getD_getElem?, List.getElem?_toArray, List.getElem?_cons_zero, List.getElem?_cons_succ, Option.getD_some, List.setIfInBounds_toArray, List.set_cons_zero, List.set_cons_succ]) | (refine Sq.seq_check rfl rfl rfl ?_; simp only [Act.put, Act.eval, Array.getD_eq_getD_getElem?, List.getElem?_toArray, List.getElem?_cons_zero, List.getElem?_cons_succ, Option.getD_some, List.setIfInBounds_toArray, List.set_cons_zero, List.set_cons_succ]) | (refine Sq.seq_load (t := 22) (fun X hX => hX.step) (Sq.wanted_none rfl) rfl rfl pl_u64 (sv_ok _ (by decide)) ?_; simp only [Act.put, Act.eval, Array.getD_eq_getD_getElem?, List.getElem?_toArray, List.getElem?_cons_zero, List.getElem?_cons_succ, Option.getD_some, List.setIfInBounds_toArray, List.set_cons_zero, List.set_cons_succ, sv_dry, sv_now, sv_k, sv_fn, sv_rd, sv_rs1, sv_rs2, sv_imm, sv_sz, sv_sg, sv_long, sv_bits, sv_ek, sv_ea, sv_eva, sv_egpa, sv_ewalk, sv_ewrote, sv_was_pc, sv_was_user, sv_was_on, sv_was_spie, sv_was_spp, sv_was_sum, sv_was_mxr, sv_was_rsv, sv_was_stvec, sv_was_sscr, sv_was_sepc, sv_was_scause, sv_was_stval, sv_was_sie, sv_was_sip, sv_was_satp, sv_was_resv, sv_h_pc, sv_h_user, sv_h_on, sv_h_spie, sv_h_spp, sv_h_sum, sv_h_mxr, sv_h_rsv, sv_h_stvec, sv_h_sscr, sv_h_sepc, sv_h_scause, sv_h_stval, sv_h_sie, sv_h_sip, sv_h_satp, sv_h_resv, sv_c]) | (refine Sq.seq_load (t := 3) (fun X hX => hX.step) (Sq.wanted_none rfl) rfl rfl pl_int (sv_ok _ (by decide)) ?_; simp only [Act.put, Act.eval, Array.getD_eq_getD_getElem?, List.getElem?_toArray, List.getElem?_cons_zero, List.getElem?_cons_succ, Option.getD_some, List.setIfInBounds_toArray, List.set_cons_zero, List.set_cons_succ, sv_dry, sv_now, sv_k, sv_fn, sv_rd, sv_rs1, sv_rs2, sv_imm, sv_sz, sv_sg, sv_long, sv_bits, sv_ek, sv_ea, sv_eva, sv_egpa, sv_ewalk, sv_ewrote, sv_was_pc, sv_was_user, sv_was_on, sv_was_spie, sv_was_spp, sv_was_sum, sv_was_mxr, sv_was_rsv, sv_was_stvec, sv_was_sscr, sv_was_sepc, sv_was_scause, sv_was_stval, sv_was_sie, sv_was_sip, sv_was_satp, sv_was_resv, sv_h_pc, sv_h_user, sv_h_on, sv_h_spie, sv_h_spp, sv_h_sum, sv_h_mxr, sv_h_rsv, sv_h_stvec, sv_h_sscr, sv_h_sepc, sv_h_scause, sv_h_stval, sv_h_sie, sv_h_sip, sv_h_satp, sv_h_resv, sv_c]) | (refine Sq.seq_load (t := 4) (fun X hX => hX.step) (Sq.wanted_none rfl) rfl rfl pl_bool (sv_ok _ (by decide)) ?_; simp only [Act.put, Act.eval, Array.getD_eq_getD_getElem?, List.getElem?_toArray, List.getElem?_cons_zero, List.getElem?_cons_succ, Option.getD_some, List.setIfInBounds_toArray, List.set_cons_zero, List.set_cons_succ, sv_dry, sv_now, sv_k, sv_fn, sv_rd, sv_rs1, sv_rs2, sv_imm, sv_sz, sv_sg, sv_long, sv_bits, sv_ek, sv_ea, sv_eva, sv_egpa, sv_ewalk, sv_ewrote, sv_was_pc, sv_was_user, sv_was_on, sv_was_spie, sv_was_spp, sv_was_sum, sv_was_mxr, sv_was_rsv, sv_was_stvec, sv_was_sscr, sv_was_sepc, sv_was_scause, sv_was_stval, sv_was_sie, sv_was_sip, sv_was_satp, sv_was_resv, sv_h_pc, sv_h_user, sv_h_on, sv_h_spie, sv_h_spp, sv_h_sum, sv_h_mxr, sv_h_rsv, sv_h_stvec, sv_h_sscr, sv_h_sepc, sv_h_scause, sv_h_stval, sv_h_sie, sv_h_sip, sv_h_satp, sv_h_resv, sv_c]) | (refine Sq.seq_load (t := 36) (fun X hX => hX.step) (Sq.wanted_none rfl) rfl rfl pl_pc (sv_ok _ (by decide)) ?_; simp only [Act.put, Act.eval, Array.getD_eq_getD_getElem?, List.getElem?_toArray, List.getElem?_cons_zero, List.getElem?_cons_succ, Option.getD_some, List.setIfInBounds_toArray, List.set_cons_zero, List.set_cons_succ, sv_c]) | (refine Sq.seq_load (t := 127) (fun X hX => hX.core) (Sq.wanted_none rfl) rfl rfl pl_km cc_kinds ?_; simp only [Act.put, Act.eval, Array.getD_eq_getD_getElem?, List.getElem?_toArray, List.getElem?_cons_zero, List.getElem?_cons_succ, Option.getD_some, List.setIfInBounds_toArray, List.set_cons_zero, List.set_cons_succ]) | (refine seq_look (fun X hX => hX.tlb.1) rfl rfl rfl rfl Tryz.underlying127 Tryz.underlying3 (v := .func (.func 95) #[] #[]) (i := 8) rfl ?_; simp only [Act.put, Act.eval, Array.getD_eq_getD_getElem?, List.getElem?_toArray, List.getElem?_cons_zero, List.getElem?_cons_succ, Option.getD_some, List.setIfInBounds_toArray, List.set_cons_zero, List.set_cons_succ]) | (refine' Sq.seq_pure rfl (fun X => _) _; rotate_left; (first | (go_simp; done) | (go_simp; rfl)); simp only [Act.put, Act.eval, Array.getD_eq_getD_getElem?, List.getElem?_toArray, List.getElem?_cons_zero, List.getElem?_cons_succ, Option.getD_some, List.setIfInBounds_toArray, List.set_cons_zero, List.set_cons_succ]))); refine Sq.seq_nil ?_; refine hK.out _ fun w1 hk => ?_; clear hK; replace HO := Lib.hid hk; clear hk; dsimp only [List.drop])
    | (go_at_call 95; (with_reducible refine (TK.out _ HO.out).mono ?_); rintro e w' ⟨rfl, ho⟩; replace HO := Lib.hid ho; clear ho)
    | ((with_reducible refine Step.gate_store (t := 22) rfl ?_); refine Step.store HO.out.step rfl rfl rfl rfl rfl pl_u64 rfl rfl ?_; intro w3 nb m; simp [go_sem, sst_dry, sst_now, sst_k, sst_fn, sst_rd, sst_rs1, sst_rs2, sst_imm, sst_sz, sst_sg, sst_long, sst_bits, sst_ek, sst_ea, sst_eva, sst_egpa, sst_ewalk, sst_ewrote, sst_h_pc, sst_h_user, sst_h_on, sst_h_spie, sst_h_spp, sst_h_sum, sst_h_mxr, sst_h_rsv, sst_h_stvec, sst_h_sscr, sst_h_sepc, sst_h_scause, sst_h_stval, sst_h_sie, sst_h_sip, sst_h_satp, sst_h_resv, sst_h_x0] at nb; replace HO := Lib.hid (HO.out.set (s' := _) nb m rfl); clear nb m)
    | ((with_reducible refine Step.gate_store (t := 3) rfl ?_); refine Step.store HO.out.step rfl rfl rfl rfl rfl pl_int rfl rfl ?_; intro w3 nb m; simp [go_sem, sst_dry, sst_now, sst_k, sst_fn, sst_rd, sst_rs1, sst_rs2, sst_imm, sst_sz, sst_sg, sst_long, sst_bits, sst_ek, sst_ea, sst_eva, sst_egpa, sst_ewalk, sst_ewrote, sst_h_pc, sst_h_user, sst_h_on, sst_h_spie, sst_h_spp, sst_h_sum, sst_h_mxr, sst_h_rsv, sst_h_stvec, sst_h_sscr, sst_h_sepc, sst_h_scause, sst_h_stval, sst_h_sie, sst_h_sip, sst_h_satp, sst_h_resv, sst_h_x0] at nb; replace HO := Lib.hid (HO.out.set (s' := _) nb m rfl); clear nb m)
    | ((with_reducible refine Step.gate_store (t := 4) rfl ?_); refine Step.store HO.out.step rfl rfl rfl rfl rfl pl_bool rfl rfl ?_; intro w3 nb m; simp [go_sem, sst_dry, sst_now, sst_k, sst_fn, sst_rd, sst_rs1, sst_rs2, sst_imm, sst_sz, sst_sg, sst_long, sst_bits, sst_ek, sst_ea, sst_eva, sst_egpa, sst_ewalk, sst_ewrote, sst_h_pc, sst_h_user, sst_h_on, sst_h_spie, sst_h_spp, sst_h_sum, sst_h_mxr, sst_h_rsv, sst_h_stvec, sst_h_sscr, sst_h_sepc, sst_h_scause, sst_h_stval, sst_h_sie, sst_h_sip, sst_h_satp, sst_h_resv, sst_h_x0] at nb; replace HO := Lib.hid (HO.out.set (s' := _) nb m rfl); clear nb m)
    | ((with_reducible refine Step.gate_load (t := 22) rfl ?_); refine Step.load HO.out.step rfl rfl rfl pl_u64 (sv_ok _ (by decide)) ?_; simp only [sv_dry, sv_now, sv_k, sv_fn, sv_rd, sv_rs1, sv_rs2, sv_imm, sv_sz, sv_sg, sv_long, sv_bits, sv_ek, sv_ea, sv_eva, sv_egpa, sv_ewalk, sv_ewrote, sv_was_pc, sv_was_user, sv_was_on, sv_was_spie, sv_was_spp, sv_was_sum, sv_was_mxr, sv_was_rsv, sv_was_stvec, sv_was_sscr, sv_was_sepc, sv_was_scause, sv_was_stval, sv_was_sie, sv_was_sip, sv_was_satp, sv_was_resv, sv_h_pc, sv_h_user, sv_h_on, sv_h_spie, sv_h_spp, sv_h_sum, sv_h_mxr, sv_h_rsv, sv_h_stvec, sv_h_sscr, sv_h_sepc, sv_h_scause, sv_h_stval, sv_h_sie, sv_h_sip, sv_h_satp, sv_h_resv, sv_c, e1])
    | ((with_reducible refine Step.gate_load (t := 3) rfl ?_); refine Step.load HO.out.step rfl rfl rfl pl_int (sv_ok _ (by decide)) ?_; simp only [sv_dry, sv_now, sv_k, sv_fn, sv_rd, sv_rs1, sv_rs2, sv_imm, sv_sz, sv_sg, sv_long, sv_bits, sv_ek, sv_ea, sv_eva, sv_egpa, sv_ewalk, sv_ewrote, sv_was_pc, sv_was_user, sv_was_on, sv_was_spie, sv_was_spp, sv_was_sum, sv_was_mxr, sv_was_rsv, sv_was_stvec, sv_was_sscr, sv_was_sepc, sv_was_scause, sv_was_stval, sv_was_sie, sv_was_sip, sv_was_satp, sv_was_resv, sv_h_pc, sv_h_user, sv_h_on, sv_h_spie, sv_h_spp, sv_h_sum, sv_h_mxr, sv_h_rsv, sv_h_stvec, sv_h_sscr, sv_h_sepc, sv_h_scause, sv_h_stval, sv_h_sie, sv_h_sip, sv_h_satp, sv_h_resv, sv_c, e1])
    | ((with_reducible refine Step.gate_load (t := 4) rfl ?_); refine Step.load HO.out.step rfl rfl rfl pl_bool (sv_ok _ (by decide)) ?_; simp only [sv_dry, sv_now, sv_k, sv_fn, sv_rd, sv_rs1, sv_rs2, sv_imm, sv_sz, sv_sg, sv_long, sv_bits, sv_ek, sv_ea, sv_eva, sv_egpa, sv_ewalk, sv_ewrote, sv_was_pc, sv_was_user, sv_was_on, sv_was_spie, sv_was_spp, sv_was_sum, sv_was_mxr, sv_was_rsv, sv_was_stvec, sv_was_sscr, sv_was_sepc, sv_was_scause, sv_was_stval, sv_was_sie, sv_was_sip, sv_was_satp, sv_was_resv, sv_h_pc, sv_h_user, sv_h_on, sv_h_spie, sv_h_spp, sv_h_sum, sv_h_mxr, sv_h_rsv, sv_h_stvec, sv_h_sscr, sv_h_sepc, sv_h_scause, sv_h_stval, sv_h_sie, sv_h_sip, sv_h_satp, sv_h_resv, sv_c, e1]))
  all_goals (first | go_ret | go_end0 | refine bodyPost_ret (results_none rfl _ _ _) rfl ?_)
  exact ⟨rfl, HO.out⟩
end Go.Proofs.YthkodjkkcgdmfaaGreat.Hart
end
section
namespace Go.Proofs.YthkodjkkcgdmfaaGreat.Hart
open Go Go.RowKit Go.Proofs.YthkodjkkcgdmfaaGreat.Step Go.Proofs.YthkodjkkcgdmfaaGreat.Enc Go.Proofs.YthkodjkkcgdmfaaGreat.Kn
open Go.Proofs.YthkodjkkcgdmfaaGreat.Mem (Ram Grow hasB wholeB num wr Rd fl Arg lst)
open Go.Proofs.YthkodjkkcgdmfaaGreat.Duo (Duo RdC cm size_two)
set_option linter.unusedVariables false
set_option linter.unusedSimpArgs false
set_option maxRecDepth 100000
theorem set_x10 (h : Hrt) (v : Int) : (hc h).setIfInBounds 10 (.int .u64 v) = hc { h with x := xup h.x 10 v } := set_x h (by decide) v
theorem set_x11 (h : Hrt) (v : Int) : (hc h).setIfInBounds 11 (.int .u64 v) = hc { h with x := xup h.x 11 v } := set_x h (by decide) v
def resetH (pc a0 a1 : Int) : Hrt := { zh with pc := pc / 2 * 2, x := xup (xup zh.x 10 a0) 11 a1 }
def placesH : Array (Nat × Nat) := #[(0, 32), (32, 1), (33, 1), (34, 1), (35, 1), (36, 1), (37, 1), (38, 1), (39, 1), (40, 1), (41, 1), (42, 1), (43, 1), (44, 1), (45, 1), (46, 1), (47, 1), (48, 1)]
theorem placesH_run (W : World) : ∃ fs, Tryz.prog.underlying 25 = some (.struct fs) ∧ (fs.mapM fun f => do pure (f.offset, ← sizeOf f.type) : Sem (Array (Nat × Nat))).run Tryz.prog W = .ok placesH W := by
  refine ⟨_, Tryz.underlying25, ?_⟩
  unfold placesH
  first | (go_simp; done) | (go_simp; rfl)
theorem zero_hartc : (Tryz.prog.info? 25).bind (·.zero) = some (.agg (hc zh)) := by kernel_rfl
theorem build_pc {a : Act} {o : Oper} {x1 : Operand} {pc : Int} (ho : o.op = .build 25 #[(1, x1)]) (h1 : a.eval x1 = .int .u64 pc) (W : World) : (execOp a.eval o).run Tryz.prog W = .ok (.value (.agg (hc { zh with pc := pc }))) W := by
  obtain ⟨fs, hu, hp⟩ := placesH_run W
  have hb := run_build (P := Tryz.prog) (t := 25) (parts := #[(1, .int .u64 pc)]) hu zero_hartc hp (cells := hc { zh with pc := pc }) (by rw [fill_at (off := 32) (size := 1) rfl rfl (Nat.le_of_ble_eq_true rfl)]; rfl)
  simp only [execOp, ho, List.map_toArray, List.map_cons, List.map_nil, h1, Sem.run_bind, hb, Result.andThen_ok, Sem.run_pure]
def zC (b : Int) (A : Option Addr) (s c : Nat) (h : Hrt) : Array Value := cs6 b 0 A s c none 0 0 0 0 h 0
def placesC : Array (Nat × Nat) := #[(0, 1), (1, 1), (2, 1), (3, 1), (4, 1), (5, 1), (6, 1), (7, 49), (56, 1)]
theorem placesC_run (W : World) : ∃ fs, Tryz.prog.underlying 69 = some (.struct fs) ∧ (fs.mapM fun f => do pure (f.offset, ← sizeOf f.type) : Sem (Array (Nat × Nat))).run Tryz.prog W = .ok placesC W := by
  refine ⟨_, Tryz.underlying69, ?_⟩
  unfold placesC
  first | (go_simp; done) | (go_simp; rfl)
theorem zero_case : (Tryz.prog.info? 69).bind (·.zero) = some (.agg (zC 0 none 0 0 zh)) := by kernel_rfl
theorem lays_case (b : Int) (A : Option Addr) (s c : Nat) (h h' : Hrt) : lays (zC b A s c h) 7 (hc h').toList = zC b A s c h' := by
  refine Array.toList_inj.1 ((lays_list _ _ _ (Nat.le_of_ble_eq_true rfl)).trans rfl)
theorem build_case {a : Act} {o : Oper} {x0 x2 x7 : Operand} {b : Int} {A : Option Addr} {s c : Nat} {h : Hrt} (ho : o.op = .build 69 #[(0, x0), (2, x2), (7, x7)]) (h0 : a.eval x0 = .int .u64 b) (h2 : a.eval x2 = .slice A s c) (h7 : a.eval x7 = .agg (hc h)) (W : World) :
    (execOp a.eval o).run Tryz.prog W = .ok (.value (.agg (zC b A s c h))) W := by
  obtain ⟨fs, hu, hp⟩ := placesC_run W
  have hf : Instr.fill (placesC[·]?) (zC 0 none 0 0 zh) [(0, .int .u64 b), (2, .slice A s c), (7, .agg (hc h))] = some (zC b A s c h) := by
    rw [fill_at (off := 0) (size := 1) rfl rfl (Nat.le_of_ble_eq_true rfl), show lays (zC 0 none 0 0 zh) 0 (Value.int .u64 b).cells.toList = zC b none 0 0 zh from rfl]
    rw [fill_at (off := 2) (size := 1) rfl rfl (Nat.le_of_ble_eq_true rfl), show lays (zC b none 0 0 zh) 2 (Value.slice A s c).cells.toList = zC b A s c zh from rfl]
    rw [fill_at (off := 7) (size := 49) rfl rfl (Nat.le_of_ble_eq_true rfl), show (Value.agg (hc h)).cells = hc h from rfl, lays_case]
    rfl
  have hb := run_build (P := Tryz.prog) (t := 69) (parts := #[(0, .int .u64 b), (2, .slice A s c), (7, .agg (hc h))]) hu zero_case hp hf
  simp only [execOp, ho, List.map_toArray, List.map_cons, List.map_nil, h0, h2, h7, Sem.run_bind, hb, Result.andThen_ok, Sem.run_pure]
set_option maxHeartbeats 4000000 in
theorem reset_any (pc a0 a1 : Int) (hpc : U64 pc) (w : World) : Calls Tryz.prog 20 #[.int .u64 pc, .int .u64 a0, .int .u64 a1] w fun e w' => e = .returned (.agg (hc (resetH pc a0 a1))) ∧ Below w.heap.size w w' := by
  have e1 := u_an1 hpc
  clear hpc
  go_enter Tryz.func20, Tryz.ntmps20
  have ST := Lib.hid (Kn.nil (S := Step.Nil) (W := w))
  go_wp2_with (first
    | ((with_reducible refine Step.gate_alloc (t := 25) rfl ?_); refine Step.freshAlloc rfl rfl (alloc_agg zero_hart) ?_; intro g6 w2 b hg hb; replace ST := Lib.hid (ST.out.made b hg hb); clear b hb; have G6 := Lib.hid hg; clear hg)
    | ((with_reducible refine gate_buildS (t := 25) rfl ?_); refine Step.value (v := .agg _) rfl (build_pc rfl rfl _) ?_)
    | ((with_reducible refine Step.gate_store (t := 25) rfl ?_); refine Step.storeAll ST.out.at0 rfl rfl rfl rfl rfl (size_hart _) rfl (hc_all _) ?_; intro w3 nb m; replace ST := Lib.hid (ST.out.set0 nb m); clear nb m)
    | ((with_reducible refine Step.gate_store (t := 25) rfl ?_); refine Step.storeAll ST.out.at1 rfl rfl rfl rfl rfl (size_hart _) rfl (hc_all _) ?_; intro w3 nb m; replace ST := Lib.hid (ST.out.set1 nb m); clear nb m)
    | ((with_reducible refine Step.gate_load (t := 25) rfl ?_); refine Step.loadAll ST.out.at0 rfl rfl rfl Tryz.underlying25 rfl (size_hart _) ?_)
    | ((with_reducible refine Step.gate_store (t := 22) rfl ?_); refine Step.store ST.out.at0 rfl rfl rfl rfl rfl pl_u64 rfl rfl ?_; intro w3 nb m; simp [go_sem, set_x10, set_x11] at nb; replace ST := Lib.hid (ST.out.set0 nb m); clear nb m))
  all_goals ((try simp only [Act.put, List.setIfInBounds_toArray, List.set_cons_zero, List.set_cons_succ]); refine bodyPost_ret (results_row rfl _ _ _ _ _ _ rfl ST.out.at1 Tryz.underlying25 rfl (size_hart _)) rfl ⟨rfl, ST.out.below⟩)
/-- The bytes of the example's instruction. -/
def awB : Nat → Int := fun k => if k = 0 then 147 else if k = 2 then 80 else 0
def awM : Nat → Int := fl (cm 1 (fun _ => (0, 0)) 0) 0 4 awB
theorem awM_0 : num awM 0 2 = 147 := by decide +kernel
theorem awM_2 : num awM 2 2 = 80 := by decide +kernel
theorem aw_dec : dec (80 * 65536 + 147) = some ⟨9, 1, 1, 0, 0, 5, 0, false⟩ := by kernel_rfl
theorem row_case (b : Int) (A : Option Addr) (s c : Nat) (h : Hrt) : Row (zC b A s c h) 7 (hc h) := by
  intro j v hv
  have hj : j < 49 := (List.getElem?_eq_some_iff.1 hv).1
  obtain h1 | h1 | h1 | h1 | h1 | h1 | h1 | h1 | h1 | h1 | h1 | h1 | h1 | h1 | h1 | h1 | h1 | h1 | h1 | h1 | h1 | h1 | h1 | h1 | h1 | h1 | h1 | h1 | h1 | h1 | h1 | h1 | h1 | h1 | h1 | h1 | h1 | h1 | h1 | h1 | h1 | h1 | h1 | h1 | h1 | h1 | h1 | h1 | h1 : j = 0 ∨ j = 1 ∨ j = 2 ∨ j = 3 ∨ j = 4 ∨ j = 5 ∨ j = 6 ∨ j = 7 ∨ j = 8 ∨ j = 9 ∨ j = 10 ∨ j = 11 ∨ j = 12 ∨ j = 13 ∨ j = 14 ∨ j = 15 ∨ j = 16 ∨ j = 17 ∨ j = 18 ∨ j = 19 ∨ j = 20 ∨ j = 21 ∨ j = 22 ∨ j = 23 ∨ j = 24 ∨ j = 25 ∨ j = 26 ∨ j = 27 ∨ j = 28 ∨ j = 29 ∨ j = 30 ∨ j = 31 ∨ j = 32 ∨ j = 33 ∨ j = 34 ∨ j = 35 ∨ j = 36 ∨ j = 37 ∨ j = 38 ∨ j = 39 ∨ j = 40 ∨ j = 41 ∨ j = 42 ∨ j = 43 ∨ j = 44 ∨ j = 45 ∨ j = 46 ∨ j = 47 ∨ j = 48 := by omega
  all_goals (subst h1; exact hv)
theorem case_all (b : Int) (A : Option Addr) (s c : Nat) (h : Hrt) : ((zC b A s c h).toList.all fun x => x.oneCell') = true := rfl
theorem size_case0 : (Tryz.prog.info? 69).map (·.size) = some 57 := by kernel_rfl
theorem size_case (b : Int) (A : Option Addr) (s c : Nat) (h : Hrt) : (Tryz.prog.info? 69).map (·.size) = some (zC b A s c h).size := size_case0
theorem both_aw {W : World} {gs : Nat} (hb : Blk W gs #[.int .u8 147, .int .u8 0, .int .u8 80, .int .u8 0] 5) (h : Hrt) : Calls Tryz.prog 32 #[.agg (zC 2147483648 (some ⟨gs, 0, none⟩) 4 4 h)] W fun e w' => ∃ gc gcr gt gtr h1 h2 F1 F2 L, e = .returned (.tuple #[.pointer (some ⟨gc, 0, none⟩), .pointer (some ⟨gcr, 0, none⟩), .pointer (some ⟨gt, 0, none⟩), .agg #[.pointer (some ⟨h1, 0, none⟩), .pointer (some ⟨h2, 0, none⟩)], .bool true]) ∧ DK W w' h1 h2 2147483648 1 awM awM F1 F2 ((gcr, #[.pointer (some ⟨h2, 0, none⟩), .pointer (some ⟨gtr, 0, none⟩), .int .u64 0, .int .i64 0, .bool false], CT) :: (gc, ccg h1 (.pointer (some ⟨gt, 0, none⟩)) 0 0 0 0 (.map none), TC) :: (gtr, #[.int .i64 8, .slice none 0 0], 145) :: (gt, #[.int .i64 8, .slice none 0 0], 115) :: L) := by
  refine both_any W 2147483648 0 (by decide) (by decide) 2147483648 (by decide) 1 (by decide) (some ⟨gs, 0, none⟩) 4 4 awB ⟨fun k hk => ?_, fun e => nomatch e⟩ (by decide) (fun k hk => ?_) none 0 0 (fun _ => (0, 0)) (fun i hi => absurd hi (Nat.not_lt_zero i)) (by decide) 0 0 h 0
  · have e : (⟨gs, 0, none⟩ : Addr).add k = ⟨gs, k, none⟩ := by unfold Addr.add; split <;> simp_all
    refine ⟨_, rfl, hb.lt, ?_, ?_⟩
    · rw [e, hb.cell k]
      obtain rfl | rfl | rfl | rfl : k = 0 ∨ k = 1 ∨ k = 2 ∨ k = 3 := by omega
      all_goals rfl
    · unfold awB; split; omega; split <;> omega
  · unfold awB; split; omega; split <;> omega
noncomputable def awS (gc : Nat) : Stp := rdP (decP (newS gc 0 (ord (resetH 2147483648 0 0))) (80 * 65536 + 147) ⟨9, 1, 1, 0, 0, 5, 0, false⟩) 1 (aluV (decP (newS gc 0 (ord (resetH 2147483648 0 0))) (80 * 65536 + 147) ⟨9, 1, 1, 0, 0, 5, 0, false⟩).fn ((decP (newS gc 0 (ord (resetH 2147483648 0 0))) (80 * 65536 + 147) ⟨9, 1, 1, 0, 0, 5, 0, false⟩).was.x 0) (immP (decP (newS gc 0 (ord (resetH 2147483648 0 0))) (80 * 65536 + 147) ⟨9, 1, 1, 0, 0, 5, 0, false⟩)))
theorem reset_fit {pc a0 a1 : Int} (h0 : U64 pc) (h1 : U64 a0) (h2 : U64 a1) : Fit (resetH pc a0 a1) := by
  have z : U64 0 := ⟨by decide, by decide⟩
  refine ⟨fun i hi => ?_, ?_, z, z, z, z, z, z, z, z, z⟩
  · show U64 (xup (xup zh.x 10 a0) 11 a1 i)
    unfold xup
    split
    · exact h2
    · split
      · exact h1
      · exact z
  · have := h0.out
    show U64 (pc / 2 * 2)
    exact ⟨by omega, by omega⟩
theorem aw_fit : Fit (resetH 2147483648 0 0) := reset_fit ⟨by decide, by decide⟩ ⟨by decide, by decide⟩ ⟨by decide, by decide⟩
/-- The example's step. -/
theorem step_aw {W : World} {gc gm : Nat} {tv : Value} {F : Nat → Prop} (hk : Kor W gc gm tv 0 2147483648 1 awM F) : Calls Tryz.prog 23 #[.pointer (some ⟨gc, 0, none⟩), .agg (hc (resetH 2147483648 0 0)), .int .u64 0] W fun e w' => e = .returned (.tuple #[.agg (hc (zeroX (awS gc)).h), .agg (ecells (zeroX (awS gc)))]) ∧ ∃ F', Kor w' gc gm tv 0 2147483648 1 awM F' ∧ Mod (fun k => k = gc ∨ F k) W w' ∧ ∀ k, F' k → F k ∨ W.heap.size ≤ k := by
  refine step_any (s2 := zeroX (awS gc)) hk _ aw_fit 0 rfl fun W' gs r y => ?_
  refine run_aluImm y (show (ord (resetH 2147483648 0 0)).satp / 1152921504606846976 = 0 from by decide +kernel) (show U64 (ord (resetH 2147483648 0 0)).satp from ⟨by decide +kernel, by decide +kernel⟩) (show (ord (resetH 2147483648 0 0)).sie = 0 from by decide +kernel) (show 0 ≤ (ord (resetH 2147483648 0 0)).pc ∧ (ord (resetH 2147483648 0 0)).pc + 2 < 18446744073709551616 from by decide +kernel) (show hasB 2147483648 1 (ord (resetH 2147483648 0 0)).pc 2 = true from by decide +kernel) (show hasB 2147483648 1 ((ord (resetH 2147483648 0 0)).pc + 2) 2 = true from by decide +kernel) 147 80 awM_0 awM_2 (by decide) (by decide) (by decide) 1 1 0 0 5 0 false aw_dec fun W'' F' y2 => ?_
  refine (saluImm_any y2.step (n := 1) (n1 := 0) rfl (by decide) rfl (by decide) (fun i hi => ?_)).mono ?_
  · exact (ord_fit aw_fit).x i hi
  · rintro e w' ⟨rfl, nb, m⟩
    exact ⟨rfl, y2.out.set nb m rfl⟩
end Go.Proofs.YthkodjkkcgdmfaaGreat.Hart
end
section
namespace Go.Proofs.YthkodjkkcgdmfaaGreat.Hart
open Go Go.RowKit Go.Proofs.YthkodjkkcgdmfaaGreat.Step Go.Proofs.YthkodjkkcgdmfaaGreat.Enc Go.Proofs.YthkodjkkcgdmfaaGreat.Kn
open Go.Proofs.YthkodjkkcgdmfaaGreat.Mem (Ram Grow hasB wholeB num wr Rd fl Arg lst)
open Go.Proofs.YthkodjkkcgdmfaaGreat.Duo (Duo RdC cm size_two)
set_option linter.unusedVariables false
set_option linter.unusedSimpArgs false
set_option maxRecDepth 100000
theorem aw_alu : aluV 1 0 5 = 5 := by unfold aluV; rw [if_pos rfl]; decide
theorem aw_x1 (gc : Nat) : (zeroX (awS gc)).h.x 1 = 5 := by
  show aluV 1 0 5 = 5
  exact aw_alu
theorem aw_pc (gc : Nat) : (zeroX (awS gc)).h.pc = 2147483652 := by
  show addW (ord (resetH 2147483648 0 0)).pc 4 = 2147483652
  decide +kernel
theorem aw_c1 (gc : Nat) : (hc (zeroX (awS gc)).h)[1]? = some (.int .u64 5) := by
  show some (Value.int .u64 ((zeroX (awS gc)).h.x 1)) = _
  rw [aw_x1]
theorem aw_c32 (gc : Nat) : (hc (zeroX (awS gc)).h)[32]? = some (.int .u64 2147483652) := by
  show some (Value.int .u64 (zeroX (awS gc)).h.pc) = _
  rw [aw_pc]
section
variable {W X w w' : World} {h1 h2 n g : Nat} {base : Int} {m1 m2 : Nat → Int} {F1 F2 : Nat → Prop} {L : Blks} {p0 p1 : Nat × Array Value × TypeId} {c : Array Value} {T : TypeId}
theorem DK.core2 {tv : Value} {vmid : Int} {km : Value} (d : DK W w h1 h2 base n m1 m2 F1 F2 (p0 :: p1 :: (g, ccg h1 tv 0 vmid 0 0 km, TC) :: L)) : Kor w g h1 tv vmid base n m1 F1 := d.drop.drop.core (done := 0) (st := 0)
theorem DK.gone (K0 : Below W.heap.size W X) (d : DK X w h1 h2 base n m1 m2 F1 F2 (p0 :: p1 :: (g, c, T) :: L)) (m : Mod (fun k => k = g ∨ F1 k) w w') : Kn Step.Nil W w' [] := by
  have hz := K0.size
  have ho : ¬ g < X.heap.size := fun h => d.drop.drop.kn.own (g, c, T) (List.mem_cons_self ..) h
  refine ⟨((Mod.of_below K0 Step.Nil).trans d.kn.mod).trans_new m fun i hi e => ?_, (fun _ h => nomatch h), (fun _ h => nomatch h), List.Pairwise.nil⟩
  rcases e with e | e
  · have e' : i = g := e
    exact absurd hi (by omega)
  · have := d.new i (.inl e)
    exact absurd hi (by omega)
end
set_option maxHeartbeats 8000000 in
theorem awake_any (W : World) : Calls Tryz.prog 15 #[] W fun e w' => e = .returned (.bool true) ∧ Below W.heap.size W w' := by
  go_enter Tryz.func15, Tryz.ntmps15
  have ST := Lib.hid (Kn.nil (S := Step.Nil) (W := W))
  go_wp2_with (first
    | ((with_reducible refine Step.gate_alloc (t := 25) rfl ?_); refine Step.freshAlloc rfl rfl (alloc_agg zero_hart) ?_; intro g7 w2 b hg hb; replace ST := Lib.hid (ST.out.made b hg hb); clear b hb; clear hg)
    | ((with_reducible refine Step.gate_alloc (t := 46) rfl ?_); refine Step.freshAlloc rfl rfl (alloc_agg zero_ev) ?_; intro g8 w2 b hg hb; replace ST := Lib.hid (ST.out.made b hg hb); clear b hb; clear hg)
    | ((with_reducible refine Step.gate_store (t := 25) rfl ?_); refine Step.storeAll ST.out.at1 rfl rfl rfl rfl rfl (size_hart _) rfl (hc_all _) ?_; intro w3 nb m; replace ST := Lib.hid (ST.out.set1 nb m); clear nb m)
    | ((with_reducible refine Step.gate_store (t := 46) rfl ?_); refine Step.storeAll (vs := #[.int .i64 0, .int .i64 0, .int .u64 0, .int .u64 0, .bool false, .bool false]) ST.out.at0 rfl rfl rfl rfl rfl size_ev rfl rfl ?_; intro w3 nb m; replace ST := Lib.hid (ST.out.set0 nb m); clear nb m)
    | ((with_reducible refine Step.gate_load (t := 46) rfl ?_); refine Step.loadAll ST.out.at0 rfl rfl rfl Tryz.underlying46 rfl size_ev ?_)
    | ((with_reducible refine Step.gate_load (t := 22) rfl ?_); refine Step.loadG ST.out.at1 rfl rfl rfl pl_u64 (aw_c1 gc) ?_)
    | ((with_reducible refine Step.gate_load (t := 22) rfl ?_); refine Step.loadG ST.out.at1 rfl rfl rfl pl_u64 (aw_c32 gc) ?_)
    | ((with_reducible refine Step.gate_build (t := 66) rfl ?_); refine Step.freshSlice (cs := #[.int .u8 147, .int .u8 0, .int .u8 80, .int .u8 0]) (T := 5) (n := 4) (m := 4) rfl ?hr ?_; (case hr => first | (go_simp; done) | (go_simp; rfl)); intro gs w1 b hg hb; replace ST := Lib.hid (ST.out.made b hg hb); clear b hg hb)
    | (go_at_call 20; (with_reducible refine (reset_any 2147483648 0 0 ⟨by decide, by decide⟩ _).mono ?_); rintro e w' ⟨rfl, hb⟩; replace ST := Lib.hid (ST.out.call hb); clear hb)
    | ((with_reducible refine gate_buildS (t := 69) rfl ?_); refine Step.value (v := .agg (zC 2147483648 (some ⟨gs, 0, none⟩) 4 4 (resetH 2147483648 0 0))) rfl (build_case rfl rfl rfl rfl _) ?_)
    | ((with_reducible refine Step.gate_alloc (t := 69) rfl ?_); refine Step.freshAlloc rfl rfl (alloc_agg zero_case) ?_; intro g1 w2 b hg hb; replace ST := Lib.hid (ST.out.made b hg hb); clear b hb; clear hg)
    | ((with_reducible refine Step.gate_store (t := 69) rfl ?_); refine Step.storeAll ST.out.at0 rfl rfl rfl rfl rfl (size_case _ _ _ _ _) rfl (case_all _ _ _ _ _) ?_; intro w3 nb m; replace ST := Lib.hid (ST.out.set0 nb m); clear nb m)
    | ((with_reducible refine Step.gate_load (t := 69) rfl ?_); refine Step.loadAll ST.out.at0 rfl rfl rfl Tryz.underlying69 rfl (size_case _ _ _ _ _) ?_)
    | (go_at_call 32; (with_reducible refine (both_aw ST.out.at1 _).mono ?_); rintro e w9 ⟨gc, gcr, gt, gtr, h1, h2, F1, F2, L, rfl, d⟩; have B1 := Lib.hid (d.kn.stood ST.out.at0 (fun h => h)); have D := Lib.hid d; have K0 := Lib.hid ST.out.below; clear d)
    | ((with_reducible refine Step.gate_alloc (t := 40) rfl ?_); refine Step.freshAlloc rfl rfl (Duo.alloc_agg Duo.zero_two) ?_; intro g5 w2 b hg hb; have N5 := Lib.hid (show g1 ≠ g5 from fun e => by have := B1.out.lt; omega); replace B1 := Lib.hid (B1.out.below hb); replace D := Lib.hid (D.out.made b hg hb); clear b hg hb)
    | ((with_reducible refine Step.gate_store (t := 40) rfl ?_); refine Step.storeAll D.out.kn.at0 rfl rfl rfl rfl rfl size_two rfl rfl ?_; intro w3 nb m; replace B1 := Lib.hid (B1.out.one m N5.out); replace D := Lib.hid (D.out.set (D.out.kn.set0 nb m) m ⟨_, List.mem_cons_self .., rfl⟩ rfl); clear nb m)
    | ((with_reducible refine Step.gate_load (t := 25) rfl ?_); refine Step.loadMid B1.out rfl rfl rfl (row_case _ _ _ _ _) Tryz.underlying25 rfl (size_hart _) ?_)
    | (go_at_call 23; (with_reducible refine (step_aw (gc := gc) D.out.core2).mono ?_); rintro e w10 ⟨rfl, F3, hk, m, hF⟩; replace ST := Lib.hid (D.out.gone K0.out m); clear hk m hF))
  go_ret
  exact ⟨rfl, ST.out.below⟩
end Go.Proofs.YthkodjkkcgdmfaaGreat.Hart
end
section
namespace Go.Proofs.YthkodjkkcgdmfaaGreat.Hart
open Go Go.RowKit Go.Proofs.YthkodjkkcgdmfaaGreat.Step Go.Proofs.YthkodjkkcgdmfaaGreat.Enc Go.Proofs.YthkodjkkcgdmfaaGreat.Kn
set_option linter.unusedVariables false
set_option linter.unusedSimpArgs false
set_option maxRecDepth 100000
theorem forIn_list {β : Type} (P : Program) (w : World) (b : β) (f : Nat → β → Sem (ForInStep β)) : ∀ (l : List Nat), (∀ i ∈ l, (f i b).run P w = .ok (.yield b) w) → (forIn l b f).run P w = .ok b w
  | [], _ => by simp
  | i :: l, h => by
    simp only [List.forIn_cons, Sem.run_bind, h i (List.mem_cons_self ..), Result.andThen_ok]
    exact forIn_list P w b f l fun j hj => h j (List.mem_cons_of_mem _ hj)
theorem forIn_upto {β : Type} (P : Program) (w : World) (n : Nat) (b : β) (f : Nat → β → Sem (ForInStep β)) (h : ∀ i, i < n → (f i b).run P w = .ok (.yield b) w) : (forIn [:n] b f).run P w = .ok b w := by
  first
    | rw [Std.Range.forIn_eq_forIn_range']
    | rw [Std.Legacy.Range.forIn_eq_forIn_range']
  refine forIn_list P w b f _ fun i hi => h i ?_
  simp [Std.Legacy.Range.size, List.mem_range'] at hi
  omega
set_option maxHeartbeats 4000000 in
theorem arr_same (d : Nat) (x : Nat → Int) (w : World) : (Op.equalIn (d + 2) 23 (.agg ((Array.range 32).map fun i => .int .u64 (x i))) (.agg ((Array.range 32).map fun i => .int .u64 (x i)))).run Tryz.prog w = .ok true w := by
  have hu := Tryz.underlying23
  have hu2 := Tryz.underlying22
  have hs : (sizeOf 22).run Tryz.prog w = .ok 1 w := by first | (go_simp; done) | (go_simp; rfl)
  unfold Op.equalIn
  simp only [Sem.run_bind, run_underlying hu, Result.andThen_ok, hs]
  rw [forIn_upto _ _ _ _ _ fun i hi => ?_]
  · simp
  · simp only [Nat.mul_one]
    have hg : ((Array.range 32).map fun i => Value.int .u64 (x i))[i]? = some (.int .u64 (x i)) := by simp [hi]
    have hz : ((Array.range 32).map fun i => Value.int .u64 (x i)).size = 32 := by simp
    generalize ((Array.range 32).map fun i => Value.int .u64 (x i)) = arr at hg hz ⊢
    have hp : (part 22 arr i).run Tryz.prog w = .ok (.int .u64 (x i)) w := by
      go_simp
      exact (Array.getElem?_eq_some_iff.1 hg).2
    have he : (Op.equalIn (d + 1) 22 (.int .u64 (x i)) (.int .u64 (x i))).run Tryz.prog w = .ok true w := by
      unfold Op.equalIn
      simp [Sem.run_bind, run_underlying hu2, Result.andThen_ok]
    simp [Sem.run_bind, hp, he, Result.andThen_ok]
theorem eqf_all {P : Program} {w : World} {d : Nat} {xs : Array Value} : ∀ (fs : List Field), (∀ f ∈ fs, ∃ v, (part f.type xs f.offset).run P w = .ok v w ∧ (Op.equalIn d f.type v v).run P w = .ok true w) → (Op.eqFields d xs xs fs).run P w = .ok true w
  | [], _ => by simp [Op.eqFields]
  | f :: fs, h => by
    obtain ⟨v, h1, h2⟩ := h f (List.mem_cons_self ..)
    have ih := eqf_all fs fun g hg => h g (List.mem_cons_of_mem _ hg)
    simp only [Op.eqFields]
    split
    · simp [Sem.run_bind, h1, h2, ih, Result.andThen_ok]
    · exact ih
theorem part_u (xs : Array Value) (i : Nat) (v : Value) (h : xs[i]? = some v) (w : World) : (part 22 xs i).run Tryz.prog w = .ok v w := by
  have hu2 := Tryz.underlying22
  go_simp
theorem part_b (xs : Array Value) (i : Nat) (v : Value) (h : xs[i]? = some v) (w : World) : (part 4 xs i).run Tryz.prog w = .ok v w := by
  have hu2 := Tryz.underlying4
  go_simp
theorem hart_arr (h : Hrt) (w : World) : (part 23 (hc h) 0).run Tryz.prog w = .ok (.agg ((Array.range 32).map fun i => .int .u64 (h.x i))) w := by
  have ha : (isAgg 23).run Tryz.prog w = .ok true w := by
    have hu := Tryz.underlying23
    first | (go_simp; done) | (go_simp; rfl)
  have hs : (sizeOf 23).run Tryz.prog w = .ok 32 w := by first | (go_simp; done) | (go_simp; rfl)
  have e : (hc h).extract 0 (0 + 32) = (Array.range 32).map fun i => Value.int .u64 (h.x i) := by
    have hz : (hc h).size = 49 := rfl
    apply Array.ext_getElem?
    intro i
    rw [Array.getElem?_extract]
    by_cases hi : i < 32
    · simp [hi, hc_x h hi, hz]
    · simp [hi, hz]
  unfold part
  simp only [Sem.run_bind, ha, hs, Result.andThen_ok, if_true, Sem.run_pure, e]
theorem eq_u (d : Nat) (v : Int) (w : World) : (Op.equalIn (d + 1) 22 (.int .u64 v) (.int .u64 v)).run Tryz.prog w = .ok true w := by
  have hu2 := Tryz.underlying22
  unfold Op.equalIn
  simp [Sem.run_bind, run_underlying hu2, Result.andThen_ok]
theorem eq_b (d : Nat) (v : Bool) (w : World) : (Op.equalIn (d + 1) 4 (.bool v) (.bool v)).run Tryz.prog w = .ok true w := by
  have hu2 := Tryz.underlying4
  unfold Op.equalIn
  simp [Sem.run_bind, run_underlying hu2, Result.andThen_ok]
set_option maxHeartbeats 4000000 in
theorem hart_same (d : Nat) (h : Hrt) (w : World) : (Op.equalIn (d + 3) 25 (.agg (hc h)) (.agg (hc h))).run Tryz.prog w = .ok true w := by
  have hp : Tryz.prog.stoodInHeld 25 = false := by kernel_rfl
  have hu := Tryz.underlying25
  rw [run_equalIn_struct w (d + 2) 25 _ _ (by rw [hu]; simp [Program.fieldsOf, hu]) hp]
  simp only [Program.fieldsOf, hu]
  refine eqf_all _ fun f hf => ?_
  simp only [List.mem_cons, List.not_mem_nil, or_false] at hf
  rcases hf with rfl | rfl | rfl | rfl | rfl | rfl | rfl | rfl | rfl | rfl | rfl | rfl | rfl | rfl | rfl | rfl | rfl | rfl
  · exact ⟨_, hart_arr h w, arr_same d h.x w⟩
  all_goals first
    | exact ⟨_, part_u _ _ _ rfl w, eq_u (d + 1) _ w⟩
    | exact ⟨_, part_b _ _ _ rfl w, eq_b (d + 1) _ w⟩
theorem row_hc (h : Hrt) : Row (hc h) 0 (hc h) := fun j v hv => by rw [Nat.zero_add]; simpa using hv
theorem gate_bin {P : Program} {ops : Array Oper} {rest : List Oper} {o : Oper} {a : Act} {W : World} {Q : Exit → Act → World → Prop} {b : BinOp} {t t2 : TypeId} {x y : Operand} (_ : o.op = .binOp b t x y t2) (h : wpList P ops Q (o :: rest) a W) : wpList P ops Q (o :: rest) a W := h
theorem eql_hart {a : Act} {o : Oper} {x y : Operand} {h : Hrt} (ho : o.op = .binOp .eql 25 x y 25) (hx : a.eval x = .agg (hc h)) (hy : a.eval y = .agg (hc h)) (W : World) : (execOp a.eval o).run Tryz.prog W = .ok (.value (.bool true)) W := by
  have hg := run_eqGuard_agg (P := Tryz.prog) (w := W) .eql 25 x y (hc h) (hc h) (by kernel_rfl)
  have he : (Op.equal 25 (.agg (hc h)) (.agg (hc h))).run Tryz.prog W = .ok true W := hart_same 9997 h W
  simp only [execOp, ho, hx, hy]
  simp [binOp, hg, he, Sem.run_bind, Result.andThen]
set_option maxHeartbeats 4000000 in
theorem traps_any (h : Hrt) (hf : Fit h) (c v : Int) (hcc : U64 c) (hv : U64 v) (W : World) : Calls Tryz.prog 3 #[.agg (hc h), .int .u64 c, .int .u64 v] W fun e w' => e = .returned (.bool true) ∧ Below W.heap.size W w' := by
  have T1 := Lib.hid (trap_any h hf c v hcc hv)
  have T2 := Lib.hid (rtrap_any h hf c v hcc hv)
  clear hf hcc hv
  generalize trg (ord h) c v = t at *
  go_enter Tryz.func3, Tryz.ntmps3
  have ST := Lib.hid (Kn.nil (S := Step.Nil) (W := W))
  go_wp2_with (first
    | ((with_reducible refine Step.gate_box (t := 25) rfl ?_); refine Step.fresh (cs := hc h) (T := 25) rfl ?hr ?_; (case hr => first | (go_simp; done) | (go_simp; rfl)); intro g3 w1 b hg hb; replace ST := Lib.hid (ST.out.made b hg hb); clear b hb; clear hg)
    | ((with_reducible refine Sq.region (id := 1) (I := fun X => Kn _ _ X _) ?hm1 13 ST.out.drew ?hp1 ?hs1); (case hm1 => rfl); (case hp1 => kernel_rfl); intro ops K hops hK; dsimp only [List.take]; (repeat (first | (refine Sq.seq_move rfl rfl ?_; simp only [Act.put, Act.eval, Array.getD_eq_getD_getElem?, List.getElem?_toArray, List.getElem?_cons_zero, List.getElem?_cons_succ, Option.getD_some, List.setIfInBounds_toArray, List.set_cons_zero, List.set_cons_succ]) | (refine Sq.seq_check rfl rfl rfl ?_; simp only [Act.put, Act.eval, Array.getD_eq_getD_getElem?, List.getElem?_toArray, List.getElem?_cons_zero, List.getElem?_cons_succ, Option.getD_some, List.setIfInBounds_toArray, List.set_cons_zero, List.set_cons_succ]) | (refine Sq.seq_row (t := 25) (fun X hX => hX.at0) (Sq.wanted_none rfl) rfl rfl (row_hc h) Tryz.underlying25 rfl (size_hart _) ?_; simp only [Act.put, Act.eval, Array.getD_eq_getD_getElem?, List.getElem?_toArray, List.getElem?_cons_zero, List.getElem?_cons_succ, Option.getD_some, List.setIfInBounds_toArray, List.set_cons_zero, List.set_cons_succ]) | (refine Sq.seq_call 13 rfl (Sq.wanted_none rfl) (fun X => ?_) (fun X hX => (T1.out X).mono fun e w' h => ⟨h.1, hX.call h.2⟩) ?_; (focus (first | (go_simp; done) | (go_simp; rfl))); simp only [Act.put, Act.eval, Array.getD_eq_getD_getElem?, List.getElem?_toArray, List.getElem?_cons_zero, List.getElem?_cons_succ, Option.getD_some, List.setIfInBounds_toArray, List.set_cons_zero, List.set_cons_succ]) | (refine Sq.seq_call 14 rfl (Sq.wanted_none rfl) (fun X => ?_) (fun X hX => (T2.out X).mono fun e w' h => ⟨h.1, hX.call h.2⟩) ?_; (focus (first | (go_simp; done) | (go_simp; rfl))); simp only [Act.put, Act.eval, Array.getD_eq_getD_getElem?, List.getElem?_toArray, List.getElem?_cons_zero, List.getElem?_cons_succ, Option.getD_some, List.setIfInBounds_toArray, List.set_cons_zero, List.set_cons_succ]) | (refine Sq.seq_call 15 rfl (by rw [hops]; rfl) (fun X => ?_) (fun X hX => (awake_any X).mono fun e w' h => ⟨h.1, hX.call h.2⟩) ?_; (focus (first | (go_simp; done) | (go_simp; rfl))); simp only [Act.put, Act.eval, Array.getD_eq_getD_getElem?, List.getElem?_toArray, List.getElem?_cons_zero, List.getElem?_cons_succ, Option.getD_some, List.setIfInBounds_toArray, List.set_cons_zero, List.set_cons_succ]) | (refine Sq.seq_val (v := .bool true) (Sq.wanted_none rfl) (fun X _ => eql_hart rfl rfl rfl X) ?_; simp only [Act.put, Act.eval, Array.getD_eq_getD_getElem?, List.getElem?_toArray, List.getElem?_cons_zero, List.getElem?_cons_succ, Option.getD_some, List.setIfInBounds_toArray, List.set_cons_zero, List.set_cons_succ]) | (refine' Sq.seq_pure rfl (fun X => _) _; rotate_left; (first | (go_simp; done) | (go_simp; rfl)); simp only [Act.put, Act.eval, Array.getD_eq_getD_getElem?, List.getElem?_toArray, List.getElem?_cons_zero, List.getElem?_cons_succ, Option.getD_some, List.setIfInBounds_toArray, List.set_cons_zero, List.set_cons_succ]))); refine Sq.seq_nil ?_; clear hops; refine hK.out _ fun w1 hk => ?_; clear hK; replace ST := Lib.hid hk; clear hk; dsimp only [List.drop]))
  go_ret
  exact ⟨rfl, ST.out.below⟩
end Go.Proofs.YthkodjkkcgdmfaaGreat.Hart
end
